/-
  The world of rational numbers: small numbers, systems.
-/
import Derived.Test.YtdehnieflanifaaGreatB7
import Derived.Test.YtdehnieflanifaaGreatB10
import Derived.Test.YtdehnieflanifaaGreatB9
import Derived.Test.YtdehnieflanifaaGreatB5
import Derived.Test.YtdehnieflanifaaGreatB1
import Derived.Test.YtdehnieflanifaaGreatB4
import Derived.Test.YtdehnieflanifaaGreatB3
import Derived.Test.YtdehnieflanifaaGreatB8
set_option linter.unusedSimpArgs false
set_option linter.unusedVariables false
set_option linter.unnecessarySimpa false
namespace Go.Eng
open F
attribute [local irreducible] AKM CmpP Req OpP UnP ConvP RdP LdR StR MkR LenP AppR AppN CpyR RowP SnR Bds SlS CallP CalP FinP pw LdM GetM SetM PutM MkM AppM SnM FlP CallR
set_option maxHeartbeats 4000000
variable {L:Lib}
def ratV (v:Int):Rat:=Rat.divInt (v%25-12) (1+v/25%8)
def ratsL (l:List Int) (n:Nat):List Rat:=(List.range n).map fun i:Nat=>ratV (withS (atS l (i:Int)) 2000)
theorem ratsL_len (l:List Int) (n:Nat):(ratsL l n).length=n:=by simp [ratsL]
theorem ratsL_succ (l:List Int) (n:Nat):ratsL l (n+1)=ratsL l n++[ratV (withS (atS l (n:Int)) 2000)]:=by simp [ratsL,List.range_succ]
theorem ratV_bt {v:Int} (h:0≤v):Bt 4 (ratV v):=by
 unfold ratV
 obtain ⟨d,hd⟩:=Int.eq_ofNat_of_zero_le (show 0≤1+v/25%8 by omega)
 rw[hd,Rat.divInt_ofNat]
 refine Bt.mk ?_ ?_
 ·show _≤16;omega
 ·show _≤16;omega
theorem ratsL_bs (l:List Int) (n:Nat):Bs 4 (ratsL l n):=by
 intro x hx
 simp only[ratsL,List.mem_map]at hx
 obtain ⟨i,_,rfl⟩:=hx
 refine ratV_bt ?_
 unfold withS
 split<;>omega
theorem ev_Rats (N:RatsGLib L) (l:List Int) (q:Bool) (n:Nat) (hl : ∀ x∈l,InI x) (hn:n≤1000000):Ev L 141 [.sl q (l.map encInt),.int .i64 (n:Int)] (.sl false ((ratsL l n).map eQ)):=by
 have hat : ∀ i:Nat,InI (atS l (i:Int)):=fun i=>by
  unfold atS
  split
  ·rw[List.getD_eq_getElem?_getD]
   cases e:l[((i:Int)).toNat]? with
   | none=>simp [InI]
   | some x=>exact hl x (List.mem_of_getElem? e)
  ·simp [InI]
 refine Ev.x N.world_Rats rfl rfl ?_
 (repeat' (refine AKM.x ?_;conv=>whnf))
 refine AKM.loop1 (fun i=>n-i) (fun (i:Nat)=>i≤n) (fun i=>[(6,.int .i64 i),(5,.row 5 0 3 0 i)]) (fun i=>[(5,5,.rw 3 ((ratsL l i).map eQ))]) [] [] 0 (by (conv=>whnf);exact ⟨rfl,rfl,rfl⟩) (by omega) ?_
 intro i p1 ih
 by_cases hi:i<n
 ·have hA:=ev_world_At N.toWorldLib l q (i:Int)
  have hA':=fun q=>ev_world_At N.toWorldLib l q (i:Int)
  have hW:=ev_world_Within N.toWorldLib (atS l (i:Int)) 2000 (hat i) (by omega)
  have hw0:0≤withS (atS l (i:Int)) 2000∧withS (atS l (i:Int)) 2000<2000:=by unfold withS;split<;>omega
  have hsucc:=ratsL_succ l i
  have hlen:=ratsL_len l i
  have hF:=ev_r3_Frac N.toRefGLib (withS (atS l (i:Int)) 2000%25-12) (1+withS (atS l (i:Int)) 2000/25%8) (by omega) (by omega)
  have hF':Ev L 125 [.int .i64 (withS (atS l (i:Int)) 2000%25-12),.int .i64 (1+withS (atS l (i:Int)) 2000/25%8)] (.agg (eQ (ratV (withS (atS l (i:Int)) 2000)))):=hF
  clear hF
  generalize ratV (withS (atS l (i:Int)) 2000)=y at *
  generalize withS (atS l (i:Int)) 2000=v at *
  (repeat' (first|(refine CmpP.go (fun hc => ?_) (fun hc => ?_)<;>first|(exfalso;omega)|(conv=>whnf))|(refine OpP.add ?_ ?_;omega;conv=>whnf)|(refine OpP.sub ?_ ?_;omega;conv=>whnf)|(refine OpP.rem ?_ (fun _ _ _ => ?_) (fun _ _ _ _ => ?_);omega;all_goals first|(exfalso;omega)|(conv=>whnf))|(refine OpP.quo ?_ ?_ (fun _ => ?_) (fun _ _ => ?_);omega;omega;all_goals first|(exfalso;omega)|(conv=>whnf))|(refine RowP.e1 ?_;conv=>whnf)|(refine AKM.x ?_;conv=>whnf)|(refine CallP.go (hA' _) ?_;conv=>whnf)|(refine CallP.go (hW) ?_;conv=>whnf)|(refine CallP.go (hF') ?_;conv=>whnf)))
  refine AppR.one (enc:=eQ) y rfl hlen.symm rfl (by omega) (by omega) ?_
  (conv=>whnf)
  (repeat' (refine OpP.add ?_ ?_;omega;conv=>whnf))
  rw[show (ratsL l i++[y]).length=i+1 by simp [hlen],←hsucc]
  exact AKM.back [(5,27)] (by (conv=>whnf);exact ⟨rfl,rfl,rfl⟩) (ih (i+1) (by omega) (by omega))
 ·obtain rfl:i=n:=by omega
  clear ih
  have hlen:=ratsL_len l i
  (repeat' (first|(refine CmpP.go (fun hc => ?_) (fun hc => ?_)<;>first|(exfalso;omega)|(conv=>whnf))|(refine AKM.x ?_;conv=>whnf)))
  refine SnR.all (enc:=eQ) (fun _=>rfl) rfl hlen.symm ?_
  (conv=>whnf)
  exact FinP.go rfl (by simp only[Clean,true_and];exact cl_eQs _)
def rowX (X:List Rat) (n j:Nat):List Rat:=(X.take (j*n+n)).drop (j*n)
def rowsX (X:List Rat) (n i:Nat):List (List Rat):=(List.range i).map (rowX X n)
theorem rowsX_succ (X:List Rat) (n i:Nat):rowsX X n (i+1)=rowsX X n i++[rowX X n i]:=by simp [rowsX,List.range_succ]
def sysOf (l:List Int) (n:Nat):SysQ :=
 let X:=ratsL l (n*n+2*n+1)
 ⟨rowsX X n n,(X.take (n*n+n)).drop (n*n),(X.take (n*n+2*n)).drop (n*n+n),X.getD (n*n+2*n) 0⟩
theorem ev_System (N:RatsGLib L) (l:List Int) (q:Bool) (n:Nat) (hl : ∀ x∈l,InI x) (hn:n≤64):Ev L 142 [.sl q (l.map encInt),.int .i64 (n:Int)] (.agg (eS (sysOf l n))):=by
 have hnn:n*n≤4096:=Nat.mul_le_mul hn hn
 have hR:=fun q=>ev_Rats N l q (n*n+2*n+1) hl (by omega)
 have hXl:=ratsL_len l (n*n+2*n+1)
 have hc1:((n*n+2*n+1:Nat):Int)=(n:Int)*n+2*n+1:=by simp
 rw[hc1]at hR
 have e1:((n:Int)*n).toNat=n*n:=by rw[←Int.natCast_mul];rfl
 have e2:((n:Int)*n+n).toNat=n*n+n:=by rw[←Int.natCast_mul];omega
 have e3:((n:Int)*n+2*n).toNat=n*n+2*n:=by rw[←Int.natCast_mul];omega
 unfold sysOf
 simp only[]
 generalize ratsL l (n*n+2*n+1)=X at *
 obtain ⟨d,hd0⟩ : ∃ d,X[n*n+2*n]? = some d:=⟨_,List.getElem?_eq_getElem (by omega)⟩
 have hd1:X[((n:Int)*n+2*n).toNat]? = some d:=by rw[e3];exact hd0
 have hdD:X.getD (n*n+2*n) 0=d:=by rw[List.getD_eq_getElem?_getD,hd0];rfl
 rw[hdD]
 refine Ev.x N.world_System rfl rfl ?_
 (repeat' (first|(refine OpP.add ?_ ?_;omega;conv=>whnf)|(refine OpP.mul ?_ ?_;omega;conv=>whnf)|(refine RdP.at (by assumption) ?_ rfl ?_;omega;conv=>whnf)|(refine SlS.go (fun _=>rfl) (Bds.ss ?_ ?_);omega;conv=>whnf)|(refine AKM.x ?_;conv=>whnf)|(refine CallP.go (hR _) ?_;conv=>whnf)))
 rw[e1,e2,e3]
 generalize (X.take (n*n+n)).drop (n*n)=B at *
 generalize (X.take (n*n+2*n)).drop (n*n+n)=C at *
 refine AKM.loop2 (fun i _=>n-i) (fun (i:Nat) (fl:Bool)=>i≤n∧fl=decide (i=0)) (fun i _=>[(7,.int .i64 i)]) (fun i fl=>bif fl then [] else [(6,6,.bx ([.row 1000 0 1 0 i,.sl false (B.map eQ),.sl false (C.map eQ)]++eQ d)),(1000,68,.rw 1 ((rowsX X n i).map fun r=>[AV.sl false (r.map eQ)]))]) [] [] 0 true (by (conv=>whnf);exact ⟨rfl,rfl,rfl⟩) ⟨by omega,by simp⟩ ?_
 intro i fl ⟨p1,p2⟩ ih
 have hrl:(rowsX X n i).length=i:=by simp [rowsX]
 by_cases hi:i<n
 ·have h1:i*n+n≤n*n:=by
   have:=Nat.mul_le_mul_right n (show i+1≤n by omega)
   rw[Nat.succ_mul]at this;exact this
  have f1:((i:Int)*n).toNat=i*n:=by rw[←Int.natCast_mul];rfl
  have f2:((i:Int)*n+n).toNat=i*n+n:=by rw[←Int.natCast_mul];omega
  have f3:0≤(i:Int)*n:=by rw[←Int.natCast_mul];omega
  have f4:(i:Int)*n+n≤X.length:=by rw[←Int.natCast_mul];omega
  have f5:rowX X n i=(X.take (i*n+n)).drop (i*n):=rfl
  have hsucc:=rowsX_succ X n i
  cases fl
  ·have hi0:i≠0:=by simpa using p2.symm
   (repeat' (first|(refine CmpP.go (fun hc => ?_) (fun hc => ?_)<;>first|(exfalso;omega)|(conv=>whnf))|(refine OpP.add ?_ ?_;omega;conv=>whnf)|(refine OpP.mul ?_ ?_;omega;conv=>whnf)|(refine SlS.go (fun _=>rfl) (Bds.ss ?_ ?_);omega;conv=>whnf)|(refine RowP.e1 ?_;conv=>whnf)|(refine AKM.x ?_;conv=>whnf)))
   rw[f1,f2,←f5]
   refine AppR.one (l:=rowsX X n i) (z:=1) (bytes:=24) (enc:=fun r:List Rat=>[AV.sl false (r.map eQ)]) (rowX X n i) rfl hrl.symm rfl (by omega) (by omega) ?_
   (conv=>whnf)
   (repeat' (refine OpP.add ?_ ?_;omega;conv=>whnf))
   rw[←hsucc,show (rowsX X n (i+1)).length=i+1 by simp [rowsX]]
   exact AKM.back [(1000,68)] (by (conv=>whnf);exact ⟨rfl,rfl,rfl⟩) (ih (i+1) false (by omega) ⟨by omega,by simp⟩)
  ·have hi0:i=0:=by simpa using p2.symm
   subst hi0
   (repeat' (first|(refine CmpP.go (fun hc => ?_) (fun hc => ?_)<;>first|(exfalso;omega)|(conv=>whnf))|(refine OpP.add ?_ ?_;omega;conv=>whnf)|(refine OpP.mul ?_ ?_;omega;conv=>whnf)|(refine SlS.go (fun _=>rfl) (Bds.ss ?_ ?_);omega;conv=>whnf)|(refine RowP.e1 ?_;conv=>whnf)|(refine AKM.x ?_;conv=>whnf)))
   rw[f1,f2,←f5]
   refine AppN.one (enc:=fun r=>[AV.sl false (r.map eQ)]) (rowX X n 0) rfl rfl (by omega) ?_
   (conv=>whnf)
   (repeat' (refine OpP.add ?_ ?_;omega;conv=>whnf))
   exact AKM.back [(1000,68)] (by (conv=>whnf);exact ⟨rfl,rfl,rfl⟩) (ih 1 false (by omega) ⟨by omega,by simp⟩)
 ·obtain rfl:i=n:=by omega
  clear ih
  cases fl
  ·(repeat' (first|(refine CmpP.go (fun hc => ?_) (fun hc => ?_)<;>first|(exfalso;omega)|(conv=>whnf))|(refine AKM.x ?_;conv=>whnf)))
   refine SnR.all (enc:=fun r=>[AV.sl false (r.map eQ)]) (fun _=>rfl) rfl hrl.symm ?_
   (conv=>whnf)
   skip
   exact FinP.go rfl (cl_eS _)
  ·have hi0:i=0:=by simpa using p2.symm
   subst hi0
   (repeat' (first|(refine CmpP.go (fun hc => ?_) (fun hc => ?_)<;>first|(exfalso;omega)|(conv=>whnf))|(refine AKM.x ?_;conv=>whnf)))
   exact FinP.go rfl (cl_eS ⟨[],B,C,d⟩)
end Go.Eng


namespace Go.Eng
open F
attribute [local irreducible] AKM CmpP Req OpP UnP ConvP RdP LdR StR MkR LenP AppR AppN CpyR RowP SnR Bds SlS CallP CalP FinP pw LdM GetM SetM PutM MkM AppM SnM FlP CallR
set_option maxHeartbeats 8000000
variable {L:Lib}
theorem rowX_len {X:List Rat} {n j:Nat} (h:j*n+n≤X.length):(rowX X n j).length=n:=by
 simp only[rowX,List.length_drop,List.length_take];omega
theorem sysOf_ok (l:List Int) (n:Nat):(sysOf l n).Ok n 4:=by
 have hX:=ratsL_len l (n*n+2*n+1)
 have hb:=ratsL_bs l (n*n+2*n+1)
 have mem : ∀ (i j:Nat) (x:Rat),x∈((ratsL l (n*n+2*n+1)).take j).drop i→Bt 4 x:=fun i j x hx=>hb x (List.mem_of_mem_take (List.mem_of_mem_drop hx))
 have hr : ∀ r∈rowsX (ratsL l (n*n+2*n+1)) n n,∃ j,j<n∧r=rowX (ratsL l (n*n+2*n+1)) n j:=fun r hr=>by
  simp only[rowsX,List.mem_map,List.mem_range]at hr
  obtain ⟨j,h1,rfl⟩:=hr
  exact ⟨j,h1,rfl⟩
 refine ⟨by simp [sysOf,rowsX],?_,?_,?_,?_,fun x hx=>mem _ _ x hx,fun x hx=>mem _ _ x hx,?_⟩
 ·intro r h
  obtain ⟨j,h1,rfl⟩:=hr r h
  refine rowX_len ?_
  have:=Nat.mul_le_mul_right n (show j+1≤n by omega)
  rw[Nat.succ_mul]at this
  omega
 ·simp only[sysOf,List.length_drop,List.length_take];omega
 ·simp only[sysOf,List.length_drop,List.length_take];omega
 ·intro r h x hx
  obtain ⟨j,h1,rfl⟩:=hr r h
  exact mem _ _ x hx
 ·show Bt 4 ((ratsL l (n*n+2*n+1)).getD (n*n+2*n) 0)
  rw[List.getD_eq_getElem?_getD]
  cases e:(ratsL l (n*n+2*n+1))[n*n+2*n]? with
  | none=>exact Bt.zero 4
  | some x=>exact hb.at e
theorem SysQ.Ok.le {S:SysQ} {n k j:Nat} (h:S.Ok n k) (hj:k≤j):S.Ok n j:=⟨h.la,h.lr,h.lb,h.lc,fun r hr=>(h.ba r hr).le hj,h.bb.le hj,h.bc.le hj,h.bd.le hj⟩
theorem SysQ.Ok.outs_bs {S:SysQ} {n k K:Nat} (h:S.Ok n k) : ∀ (xs now:List Rat) (s:Nat),now.length=n→Bs s now→Bs k xs→(∀ i,i≤xs.length→respK n k s i≤K)→Bs K (S.outs now xs)∧Bs K (S.state now xs)
 | [],now,s,_,hs,_,hK=>⟨fun x hx=>by simp [SysQ.outs]at hx,hs.le (hK 0 (by simp))⟩
 | x::xs,now,s,hl,hs,hx,hK=>by
  obtain ⟨b1,b2⟩:=h.next_bs hl hs (hx x (by simp))
  obtain ⟨c1,c2⟩:=h.outs_bs xs (S.next now x) (stepK n k s) (h.next_len now x) b1 (fun z hz=>hx z (by simp [hz])) (fun i hi=>hK (i+1) (by simp;omega))
  refine ⟨?_,c2⟩
  intro z hz
  simp only[SysQ.outs,List.mem_cons]at hz
  rcases hz with rfl|hz
  ·exact b2.le (hK 1 (by simp))
  ·exact c1 z hz
end Go.Eng

namespace Go.Eng
open F
attribute [local irreducible] AKM CmpP Req OpP UnP ConvP RdP LdR StR MkR LenP AppR AppN CpyR RowP SnR Bds SlS CallP CalP FinP pw LdM GetM SetM PutM MkM AppM SnM FlP CallR
set_option maxHeartbeats 4000000
variable {L:Lib}
theorem mk_div3 {a c:Int} {b d:Nat} (hb:b≠0) (hd:d≠0) (hc:c≠0):mkRat a b/mkRat c d=Rat.divInt (a*d) (b*c):=by
 rw[Rat.div_def,←Rat.divInt_ofNat,←Rat.divInt_ofNat,Rat.inv_divInt,Rat.divInt_mul_divInt]
theorem ev_div3 (N:RefHLib L) {x y:Rat} {k l:Nat} (hx:Bt k x) (hy:Bt l y) (hk:k<2199023255552) (hl:l<2199023255552) (h0:y≠0):Ev L 154 [.agg (eQ x),.agg (eQ y)] (.tup [.agg (eQ (x/y)),.int .i64 0]):=by
 obtain ⟨a1,a2,a3,hr1,s1,s2,s3,s5⟩:=ev_parts N.toRefGLib (decide (x.num<0)) false (dg x.num.natAbs) (dg x.den) 68719476736 (by omega) (hx.sm3 hk).1 (hx.sm3 hk).2
 obtain ⟨b1,b2,b3,hr2,t1,t2,t3,t5⟩:=ev_parts N.toRefGLib (decide (y.num<0)) false (dg y.num.natAbs) (dg y.den) 68719476736 (by omega) (hy.sm3 hl).1 (hy.sm3 hl).2
 have l1:=s1.2
 have l2:=s2.2
 have l3:=t1.2
 have l4:=t2.2
 rw[qv_of]at s5 t5
 have hb0:zv b1 b2≠0:=fun h=>h0 (by rw[t5,h,Rat.zero_mkRat])
 have hS:=fun q=>ev_r2_Sign N.toRefGLib b1 q b2 (t1.le (by omega))
 have hsg:sgn (zv b1 b2)≠0:=by unfold sgn;split<;>(try split)<;>omega
 have hM1:=fun q q'=>ev_r2_Mul N.toRefGLib a1 false q q' a2 b3 s1.1 t2.1 (by omega)
 have hM2:=fun q q'=>ev_r2_Mul N.toRefGLib false b1 q q' a3 b2 s2.1 t1.1 (by omega)
 have g1:Sm (68719476736+68719476736) (dg (zv a1 a2*zv false b3).natAbs):=sm_zmul' s1 t2
 have g2:Sm (68719476736+68719476736) (dg (zv false a3*zv b1 b2).natAbs):=sm_zmul' s2 t1
 have hR:=fun q q'=>ev_reduce N.toRefGLib (decide (zv a1 a2*zv false b3<0)) (decide (zv false a3*zv b1 b2<0)) q q' _ _ (g1.le (by omega)) (g2.le (by omega))
 rw[zv_of,zv_of]at hR
 have he:x/y=Rat.divInt (zv a1 a2*zv false b3) (zv false a3*zv b1 b2):=by rw[s5,t5,mk_div3 s3 t3 hb0,zv_F,zv_F]
 rw[he]
 generalize sgn (zv b1 b2)=sg at *
 refine Ev.x N.ref03_Div rfl rfl ?_
 (repeat' (first|(refine CmpP.go (fun hc => ?_) (fun hc => ?_)<;>first|(exfalso;omega)|(conv=>whnf))|(refine AKM.x ?_;conv=>whnf)|(refine CallP.go (hr1) ?_;conv=>whnf)|(refine CallP.go (hr2) ?_;conv=>whnf)|(refine CallP.go (hS _) ?_;conv=>whnf)|(refine CallP.go (hM1 _ _) ?_;conv=>whnf)|(refine CallP.go (hM2 _ _) ?_;conv=>whnf)|(refine CallP.go (hR _ _) ?_;conv=>whnf)))
 exact FinP.go rfl (by simp only[Clean,CleanL,and_true,true_and];exact ⟨cl_dig _,cl_dig _⟩)
end Go.Eng

namespace Go.Eng
open F
attribute [local irreducible] AKM CmpP Req OpP UnP ConvP RdP LdR StR MkR LenP AppR AppN CpyR RowP SnR Bds SlS CallP CalP FinP pw LdM GetM SetM PutM MkM AppM SnM FlP CallR
set_option maxHeartbeats 8000000
variable {L:Lib}
theorem ev_r1_Same (N:RefHLib L) (q1 q2:Bool) (m:List Nat) (hm:m.length≤274877906944):Ev L 156 [.sl q1 (m.map e32),.sl q2 (m.map e32)] (.bool true):=by
 refine Ev.x N.ref01_Same rfl rfl ?_
 (repeat' (first|(refine CmpP.go (fun hc => ?_) (fun hc => ?_)<;>first|(exfalso;omega)|(conv=>whnf))|(refine LenP.go ?_;conv=>whnf)|(refine AKM.x ?_;conv=>whnf)))
 refine AKM.loop1 (fun i=>m.length-i) (fun (i:Nat)=>i≤m.length) (fun i=>[(5,.int .i64 i)]) (fun _=>[]) [] [] 0 (by (conv=>whnf);exact ⟨rfl,rfl,rfl⟩) (by omega) ?_
 intro i p1 ih
 by_cases hi:i<m.length
 ·obtain ⟨x,hx⟩ : ∃ x,m[i]? = some x:=⟨_,List.getElem?_eq_getElem hi⟩
  have hx':m[(i:Int).toNat]? = some x:=hx
  (repeat' (first|(refine CmpP.go (fun hc => ?_) (fun hc => ?_)<;>first|(exfalso;omega)|(conv=>whnf))|(refine OpP.add ?_ ?_;omega;conv=>whnf)|(refine LenP.go ?_;conv=>whnf)|(refine RdP.at (by assumption) ?_ rfl ?_;omega;conv=>whnf)|(refine AKM.x ?_;conv=>whnf)))
  exact AKM.back [] (by (conv=>whnf);exact ⟨rfl,rfl,rfl⟩) (ih (i+1) (by omega) (by omega))
 ·obtain rfl:i=m.length:=by omega
  clear ih
  (repeat' (first|(refine CmpP.go (fun hc => ?_) (fun hc => ?_)<;>first|(exfalso;omega)|(conv=>whnf))|(refine LenP.go ?_;conv=>whnf)|(refine AKM.x ?_;conv=>whnf)))
  exact FinP.b rfl
theorem ev_r2_Same (N:RefHLib L) (n q1 q2:Bool) (m:List Nat) (hm:m.length≤274877906944):Ev L 157 [.agg (rZ q1 n m),.agg (rZ q2 n m)] (.bool true):=by
 have h1:=fun q1 q2=>ev_r1_Same N q1 q2 m hm
 refine Ev.x N.ref02_Same rfl rfl ?_
 cases n
 all_goals
  (repeat' (first|(refine AKM.x ?_;conv=>whnf)|(refine CallP.go (h1 _ _) ?_;conv=>whnf)))
  exact FinP.b rfl
theorem ev_r3_Same (N:RefHLib L) {x:Rat} {k:Nat} (hx:Bt k x) (hk:k<2199023255552):Ev L 158 [.agg (eQ x),.agg (eQ x)] (.bool true):=by
 have hs:=hx.sm3 hk
 have h1:=fun q1 q2=>ev_r1_Same N q1 q2 (dg x.den) (by have:=hs.2.2;omega)
 have h2:=fun q1 q2=>ev_r2_Same N (decide (x.num<0)) q1 q2 (dg x.num.natAbs) (by have:=hs.1.2;omega)
 refine Ev.x N.ref03_Same rfl rfl ?_
 (repeat' (first|(refine AKM.x ?_;conv=>whnf)|(refine CallP.go (h1 _ _) ?_;conv=>whnf)|(refine CallP.go (h2 _ _) ?_;conv=>whnf)))
 exact FinP.b rfl
theorem ev_SameList (N:RefHLib L) (q1 q2:Bool) (l:List Rat) (k:Nat) (hl:Bs k l) (hk:k<2199023255552) (hn:l.length≤1099511627776):Ev L 159 [.sl q1 (l.map eQ),.sl q2 (l.map eQ)] (.bool true):=by
 refine Ev.x N.ref03_SameList rfl rfl ?_
 (repeat' (first|(refine CmpP.go (fun hc => ?_) (fun hc => ?_)<;>first|(exfalso;omega)|(conv=>whnf))|(refine LenP.go ?_;conv=>whnf)|(refine AKM.x ?_;conv=>whnf)))
 refine AKM.loop1 (fun i=>l.length-i) (fun (i:Nat)=>i≤l.length) (fun i=>[(5,.int .i64 i)]) (fun _=>[]) [] [] 0 (by (conv=>whnf);exact ⟨rfl,rfl,rfl⟩) (by omega) ?_
 intro i p1 ih
 by_cases hi:i<l.length
 ·obtain ⟨x,hx⟩ : ∃ x,l[i]? = some x:=⟨_,List.getElem?_eq_getElem hi⟩
  have hx':l[(i:Int).toNat]? = some x:=hx
  have hC:=ev_r3_Same N (hl.at hx) hk
  (repeat' (first|(refine CmpP.go (fun hc => ?_) (fun hc => ?_)<;>first|(exfalso;omega)|(conv=>whnf))|(refine OpP.add ?_ ?_;omega;conv=>whnf)|(refine LenP.go ?_;conv=>whnf)|(refine RdP.at (by assumption) ?_ rfl ?_;omega;conv=>whnf)|(refine AKM.x ?_;conv=>whnf)|(refine CallP.go (hC) ?_;conv=>whnf)))
  exact AKM.back [] (by (conv=>whnf);exact ⟨rfl,rfl,rfl⟩) (ih (i+1) (by omega) (by omega))
 ·obtain rfl:i=l.length:=by omega
  clear ih
  (repeat' (first|(refine CmpP.go (fun hc => ?_) (fun hc => ?_)<;>first|(exfalso;omega)|(conv=>whnf))|(refine LenP.go ?_;conv=>whnf)|(refine AKM.x ?_;conv=>whnf)))
  exact FinP.b rfl
theorem ev_sign3 (N:RefHLib L) {x:Rat} {k:Nat} (hx:Bt k x) (hk:k<2199023255552) : ∃ s:Int,Ev L 155 [.agg (eQ x)] (.int .i64 s)∧(s=0↔x=0):=by
 have hm:=hx.sm3 hk
 obtain ⟨n',m',d',hp,s1,s2,s3,s4⟩:=ev_parts N.toRefGLib (decide (x.num<0)) false (dg x.num.natAbs) (dg x.den) 274877906943 (by omega) (hm.1.le (by omega)) (hm.2.le (by omega))
 have hS:=fun q=>ev_r2_Sign N.toRefGLib n' q m' (s1.le (by omega))
 rw[qv_of]at s4
 have hz:sgn (zv n' m')=0↔x=0:=by
  rw[s4,Rat.mkRat_eq_zero s3]
  unfold sgn;split<;>(try split)<;>omega
 generalize sgn (zv n' m')=s at *
 refine ⟨s,?_,hz⟩
 refine Ev.x N.ref03_Sign rfl rfl ?_
 (repeat' (first|(refine AKM.x ?_;conv=>whnf)|(refine CallP.go (hp) ?_;conv=>whnf)|(refine CallP.go (hS _) ?_;conv=>whnf)))
 exact FinP.i rfl
def cutN (l:List Rat):Nat→Nat
 | 0=>0
 | n+1=>if l.getD n 0=0 then cutN l n else n+1
theorem cutN_le (l:List Rat) : ∀ n,cutN l n≤n
 | 0=>Nat.le_refl _
 | n+1=>by rw[cutN];split;exact Nat.le_succ_of_le (cutN_le l n);exact Nat.le_refl _
def trimQ (l:List Rat):List Rat:=l.take (cutN l l.length)
theorem cutN_take (l:List Rat) (k:Nat) : ∀ n,n≤k→cutN (l.take k) n=cutN l n
 | 0,_=>rfl
 | n+1,h=>by
  rw[cutN,cutN,cutN_take l k n (by omega),List.getD_eq_getElem?_getD,List.getD_eq_getElem?_getD,List.getElem?_take_of_lt (by omega)]
theorem cutN_idem (l:List Rat) : ∀ n,cutN l (cutN l n)=cutN l n
 | 0=>rfl
 | n+1=>by
  rw[cutN];split
  ·exact cutN_idem l n
  ·next h=>rw[cutN,if_neg h]
theorem trimQ_len (l:List Rat):(trimQ l).length=cutN l l.length:=by rw[trimQ,List.length_take];exact Nat.min_eq_left (cutN_le _ _)
theorem trimQ_idem (l:List Rat):trimQ (trimQ l)=trimQ l:=by
 have h:=trimQ_len l
 have h2:cutN (trimQ l) (trimQ l).length=(trimQ l).length:=by
  rw[h,trimQ,cutN_take _ _ _ (Nat.le_refl _),cutN_idem]
 rw[trimQ,h2,List.take_length]
theorem Bs.trim {k:Nat} {l:List Rat} (h:Bs k l):Bs k (trimQ l):=fun x hx=>h x (List.mem_of_mem_take hx)
theorem take_snocQ {l:List Rat} {i:Nat} {x:Rat} (h:l[i]? = some x):l.take (i+1)=l.take i++[x]:=by
 rw[List.take_add_one,h];rfl
theorem ev_r5_Trim (N:R05GLib L) (q:Bool) (l:List Rat) (k:Nat) (hl:Bs k l) (hk:k<2199023255552) (hn:l.length≤1000000):Ev L 171 [.sl q (l.map eQ)] (.sl false ((trimQ l).map eQ)):=by
 refine Ev.x N.ref05_Trim rfl rfl ?_
 (repeat' (first|(refine LenP.go ?_;conv=>whnf)|(refine AKM.x ?_;conv=>whnf)))
 refine AKM.loop1 (fun n=>n) (fun (n:Nat)=>n≤l.length∧cutN l l.length=cutN l n) (fun n=>[(3,.int .i64 n)]) (fun _=>[]) [] [] l.length (by (conv=>whnf);exact ⟨rfl,rfl,rfl⟩) ⟨Nat.le_refl _,rfl⟩ ?_
 intro n ⟨p1,p2⟩ ih
 have done : ∀ {n:Nat},cutN l l.length=n→trimQ l=l.take n:=fun h=>by rw[trimQ,h]
 by_cases hz:n=0∨(∃ m x,n=m+1∧l[m]? = some x∧x≠0)
 ·have hcut:cutN l l.length=n:=by
   rw[p2]
   rcases hz with rfl|⟨m,x,rfl,h1,h2⟩
   ·rfl
   ·rw[cutN,if_neg]
    rw[List.getD_eq_getElem?_getD,h1];exact h2
  rw[done hcut]
  have htl:(l.take n).length=n:=by rw[List.length_take];omega
  have htb:Bs k (l.take n):=hl.take n
  clear ih hcut p2 done
  rcases hz with h0|⟨m,x,hnm,h1,h2⟩
  case' inl=>(repeat' (first|(refine CmpP.go (fun hc => ?_) (fun hc => ?_)<;>first|(exfalso;omega)|(conv=>whnf))|(refine AKM.x ?_;conv=>whnf)))
  case' inr =>
   have h1':l[((n:Int)-1).toNat]? = some x:=by rw[show ((n:Int)-1).toNat=m by omega];exact h1
   obtain ⟨s,hS,hs⟩:=ev_sign3 N.toRefHLib (hl.at h1) hk
   have hs0:s≠0:=fun h=>h2 (hs.1 h)
   (repeat' (first|(refine CmpP.go (fun hc => ?_) (fun hc => ?_)<;>first|(exfalso;omega)|(conv=>whnf))|(refine OpP.sub ?_ ?_;omega;conv=>whnf)|(refine RdP.at (by assumption) ?_ rfl ?_;omega;conv=>whnf)|(refine AKM.x ?_;conv=>whnf)|(refine CallP.go (hS) ?_;conv=>whnf)))
  all_goals
   refine SlS.to (fun _=>rfl) p1 ?_
   generalize l.take n=t at *
   (conv=>whnf)
   (repeat' (refine LenP.go ?_;conv=>whnf))
   refine AKM.loop1 (fun i=>n-i) (fun (i:Nat)=>i≤n) (fun i=>[(26,.int .i64 i),(4,.row 171004 0 3 0 i)]) (fun i=>[(171004,171004,.rw 3 ((t.take i).map eQ))]) [] [] 0 (by (conv=>whnf);exact ⟨rfl,rfl,rfl⟩) (by omega) ?_
   intro i g1 ih
   have hti:(t.take i).length=i:=by rw[List.length_take];omega
   by_cases hi:i<n
   ·all_goals try (exfalso;omega)
    all_goals
     obtain ⟨y,hy⟩ : ∃ y,t[i]? = some y:=⟨_,List.getElem?_eq_getElem (by omega)⟩
     have hy':t[(i:Int).toNat]? = some y:=hy
     have hsn:=take_snocQ hy
     have hti1:(t.take (i+1)).length=i+1:=by rw[List.length_take];omega
     have hT:=ev_trim3 N.toRefGLib (htb.at hy) hk
     (repeat' (first|(refine CmpP.go (fun hc => ?_) (fun hc => ?_)<;>first|(exfalso;omega)|(conv=>whnf))|(refine RdP.at (by assumption) ?_ rfl ?_;omega;conv=>whnf)|(refine RowP.e1 ?_;conv=>whnf)|(refine AKM.x ?_;conv=>whnf)|(refine CallP.go (hT) ?_;conv=>whnf)))
     refine AppR.one (enc:=eQ) y rfl hti.symm rfl (by omega) (by omega) ?_
     rw[←hsn,hti1]
     (conv=>whnf)
     (repeat' (refine OpP.add ?_ ?_;omega;conv=>whnf))
     exact AKM.back [(171004,171034)] (by (conv=>whnf);exact ⟨rfl,rfl,rfl⟩) (ih (i+1) (by omega) (by omega))
   ·obtain rfl:i=n:=by omega
    clear ih
    rw[List.take_of_length_le (Nat.le_of_eq htl)]
    (repeat' (first|(refine CmpP.go (fun hc => ?_) (fun hc => ?_)<;>first|(exfalso;omega)|(conv=>whnf))|(refine AKM.x ?_;conv=>whnf)))
    refine SnR.all (enc:=eQ) (fun _=>rfl) rfl htl.symm ?_
    (conv=>whnf)
    exact FinP.go rfl (by simp only[Clean,true_and];exact cl_eQs _)
 ·obtain ⟨m,rfl⟩ : ∃ m,n=m+1:=⟨n-1,by omega⟩
  obtain ⟨x,hx⟩ : ∃ x,l[m]? = some x:=⟨_,List.getElem?_eq_getElem (by omega)⟩
  have hx0:x=0:=by
   rcases Classical.em (x=0) with h|h
   ·exact h
   ·exact (hz (Or.inr ⟨m,x,rfl,hx,h⟩)).elim
  have hx':l[((m+1:Nat)-1:Int).toNat]? = some x:=by rw[show ((m+1:Nat)-1:Int).toNat=m by omega];exact hx
  obtain ⟨s,hS,hs⟩:=ev_sign3 N.toRefHLib (hl.at hx) hk
  have hs0:=hs.2 hx0
  (repeat' (first|(refine CmpP.go (fun hc => ?_) (fun hc => ?_)<;>first|(exfalso;omega)|(conv=>whnf))|(refine OpP.sub ?_ ?_;omega;conv=>whnf)|(refine RdP.at (by assumption) ?_ rfl ?_;omega;conv=>whnf)|(refine AKM.x ?_;conv=>whnf)|(refine CallP.go (hS) ?_;conv=>whnf)))
  rw[show ((m+1:Nat):Int)-1=(m:Int) by omega]
  exact AKM.back [] (by (conv=>whnf);exact ⟨rfl,rfl,rfl⟩) (ih m (by omega) ⟨by omega,by rw[p2,cutN,if_pos (by rw[List.getD_eq_getElem?_getD,hx];exact hx0)]⟩)
theorem ev_r5_Equal (N:R05GLib L) (q1 q2:Bool) (l:List Rat) (k:Nat) (hl:Bs k l) (hk:k<2199023255552) (hn:l.length≤1000000):Ev L 172 [.sl q1 (l.map eQ),.sl q2 (l.map eQ)] (.bool true):=by
 have hS:=fun q1 q2=>ev_SameList N.toRefHLib q1 q2 l k hl hk (by omega)
 refine Ev.x N.ref05_Equal rfl rfl ?_
 (repeat' (first|(refine AKM.x ?_;conv=>whnf)|(refine CallP.go (hS _ _) ?_;conv=>whnf)))
 exact FinP.b rfl
theorem ev_r5_Same (N:R05GLib L) (q1 q2:Bool) (l:List Rat) (k:Nat) (hl:Bs k l) (hk:k<2199023255552) (hn:l.length≤1000000):Ev L 173 [.sl q1 (l.map eQ),.sl q2 (l.map eQ)] (.bool true):=by
 have hT:=fun q=>ev_r5_Trim N q l k hl hk hn
 have hS:=fun q1 q2=>ev_r5_Equal N q1 q2 (trimQ l) k hl.trim hk (by rw[trimQ_len];have:=cutN_le l l.length;omega)
 refine Ev.x N.ref05_Same rfl rfl ?_
 (repeat' (first|(refine AKM.x ?_;conv=>whnf)|(refine CallP.go (hT _) ?_;conv=>whnf)|(refine CallP.go (hS _ _) ?_;conv=>whnf)))
 exact FinP.b rfl
end Go.Eng

namespace Go.Eng
open F
attribute [local irreducible] AKM CmpP Req OpP UnP ConvP RdP LdR StR MkR LenP AppR AppN CpyR RowP SnR Bds SlS CallP CalP FinP pw LdM GetM SetM PutM MkM AppM SnM FlP CallR
set_option maxHeartbeats 4000000
variable {L:Lib}
theorem mk_sign {x y:Int} (h:y≠0):mkRat (y.sign*x) y.natAbs=Rat.divInt x y:=by
 obtain ⟨d,hd|hd⟩:=Int.eq_nat_or_neg y
 ·subst hd
  rw[Int.sign_eq_one_of_pos (by omega),Int.one_mul,Int.natAbs_natCast,Rat.divInt_ofNat]
 ·subst hd
  rw[Int.sign_eq_neg_one_of_neg (by omega),Int.natAbs_neg,Int.natAbs_natCast,Rat.divInt_neg',Rat.divInt_ofNat,Int.neg_one_mul]
theorem ev_FracQ (N:RatHLib L) (x y:Int) (hx : -9223372036854775808≤x∧x≤9223372036854775807) (hy : -9223372036854775808≤y∧y≤9223372036854775807) (h0:y≠0):Ev L 151 [.int .i64 x,.int .i64 y] (.agg (eQ (Rat.divInt x y))):=by
 have h1:=ev_integer_Of N.toRatGLib x hx
 have h2:=ev_integer_Of N.toRatGLib y hy
 have g1:Sm 2 (dg x.natAbs):=Sm.dg (by omega)
 have g2:Sm 2 (dg y.natAbs):=Sm.dg (by omega)
 have hl:=fun q1 q2=>ev_lowest N.toRatGLib (decide (x<0) != decide (y<0)) q1 q2 (dg x.natAbs) (dg y.natAbs) (g1.le (by omega)) (g2.le (by omega)) (by rw[val_dg];omega)
 unfold qv at hl
 rw[zv_quot h0,val_dg,mk_sign h0]at hl
 refine Ev.x N.rational_Frac rfl rfl ?_
 (repeat' (first|(refine CmpP.go (fun hc => ?_) (fun hc => ?_)<;>first|(exfalso;omega)|(conv=>whnf))|(refine AKM.x ?_;conv=>whnf)|(refine CallP.go (h1) ?_;conv=>whnf)|(refine CallP.go (h2) ?_;conv=>whnf)))
 refine CalP.walkC 1000 N.rational_quotient rfl rfl ?_
 (repeat' (refine AKM.x ?_;conv=>whnf))
 generalize decide (x<0)=p at *
 generalize decide (y<0)=r at *
 cases p<;>cases r
 all_goals
  (conv=>whnf)
  refine ⟨rfl,?_⟩
  (conv=>whnf)
  (repeat' (refine CallP.go (hl _ _) ?_;conv=>whnf))
  exact FinP.go rfl (cl_eQ _)
end Go.Eng

namespace Go.Eng
open F
attribute [local irreducible] AKM CmpP Req OpP UnP ConvP RdP LdR StR MkR LenP AppR AppN CpyR RowP SnR Bds SlS CallP CalP FinP pw LdM GetM SetM PutM MkM AppM SnM FlP CallR
set_option maxHeartbeats 8000000
variable {L:Lib}
def addP (p r:List Rat):List Rat:=(List.range p.length).map fun i=>p.getD i 0+r.getD i 0
theorem addP_len (p r:List Rat):(addP p r).length=p.length:=by simp [addP]
theorem addP_at {p r:List Rat} {i:Nat} (h:i<p.length):(addP p r)[i]? = some (p.getD i 0+r.getD i 0):=by
 simp only[addP,List.getElem?_map,List.getElem?_range h,Option.map_some]
theorem gD_of {l:List Rat} {i:Nat} {x:Rat} (h:l[i]? = some x):l.getD i 0=x:=by rw[List.getD_eq_getElem?_getD,h];rfl
theorem gD_ge {l:List Rat} {i:Nat} (h:l.length≤i):l.getD i 0=0:=by rw[List.getD_eq_getElem?_getD,List.getElem?_eq_none h];rfl
theorem ev_pTrim (N:PolyGLib L) (q:Bool) (l:List Rat) (k:Nat) (hl:Bs k l) (hk:k<2199023255552) (hn:l.length≤1000000):Ev L 170 [.sl q (l.map eQ)] (.sl false ((trimQ l).map eQ)):=by
 refine Ev.x N.poly_Trim rfl rfl ?_
 (repeat' (refine AKM.x ?_;conv=>whnf))
 refine CalP.walk 1000 N.poly_cut rfl rfl ?_
 (repeat' (first|(refine LenP.go ?_;conv=>whnf)|(refine AKM.x ?_;conv=>whnf)))
 refine AKM.loop1 (fun n=>n) (fun (n:Nat)=>n≤l.length∧cutN l l.length=cutN l n) (fun n=>[(3,.int .i64 n)]) (fun _=>[]) [] [] l.length (by (conv=>whnf);exact ⟨rfl,rfl,rfl⟩) ⟨Nat.le_refl _,rfl⟩ ?_
 intro n ⟨p1,p2⟩ ih
 have done : ∀ {n:Nat},cutN l l.length=n→trimQ l=l.take n:=fun h=>by rw[trimQ,h]
 by_cases hz:n=0∨(∃ m x,n=m+1∧l[m]? = some x∧x≠0)
 ·have hcut:cutN l l.length=n:=by
   rw[p2]
   rcases hz with rfl|⟨m,x,rfl,h1,h2⟩
   ·rfl
   ·rw[cutN,if_neg]
    rw[List.getD_eq_getElem?_getD,h1];exact h2
  have htq:=done hcut
  have htl:(l.take n).length=n:=by rw[List.length_take];omega
  clear ih hcut p2 done
  rcases hz with h0|⟨m,x,hnm,h1,h2⟩
  case' inl=>(repeat' (first|(refine CmpP.go (fun hc => ?_) (fun hc => ?_)<;>first|(exfalso;omega)|(conv=>whnf))|(refine AKM.x ?_;conv=>whnf)))
  case' inr =>
   have h1':l[((n:Int)-1).toNat]? = some x:=by rw[show ((n:Int)-1).toNat=m by omega];exact h1
   have hS':=ev_signQ N.toRatGLib (hl.at h1) (by omega)
   have hs:=sgn_num (x:=x)
   generalize sgn x.num=s at *
   have hS : ∀ v,l[((n:Int)-1).toNat]? = some v→Ev L 97 [.agg (eQ v)] (.int .i64 s):=fun v h=>by
    obtain rfl:=Option.some.inj (h1'.symm.trans h)
    exact hS'
   have hs0:s≠0:=fun h=>h2 (hs.1 h)
   (repeat' (first|(refine CmpP.go (fun hc => ?_) (fun hc => ?_)<;>first|(exfalso;omega)|(conv=>whnf))|(refine OpP.sub ?_ ?_;omega;conv=>whnf)|(refine RdP.at (by assumption) ?_ rfl ?_;omega;conv=>whnf)|(refine AKM.x ?_;conv=>whnf)|(refine CallP.go (hS') ?_;conv=>whnf)))
  all_goals
   refine SlS.to (enc:=eQ) (fun _=>rfl) p1 ?_
   (conv=>whnf)
   skip
   refine ⟨rfl,_,rfl,?_⟩
   (conv=>whnf)
   (repeat' (refine LenP.go ?_;conv=>whnf))
   refine MkR.go (enc:=eO) none n rfl (by rw[htl]) (by omega) ?_
   (conv=>whnf)
   skip
   refine AKM.loop1 (fun i=>n-i) (fun (i:Nat)=>i≤n) (fun i=>[(11,.int .i64 i)]) (fun i=>[(170008,170008,.rw 3 ((fillO (l.take i) n).map eO))]) [] [] 0 (by first|exact (by (conv=>whnf);exact ⟨rfl,rfl,rfl⟩)|(rw[List.take_zero,←fillO_nil];exact (by (conv=>whnf);exact ⟨rfl,rfl,rfl⟩))) (by omega) ?_
   intro i g1 ih
   by_cases hi:i<n
   ·all_goals try (exfalso;omega)
    all_goals
     obtain ⟨y,hy⟩ : ∃ y,l[i]? = some y:=⟨_,List.getElem?_eq_getElem (by omega)⟩
     have hy':l[(i:Int).toNat]? = some y:=hy
     have hti:(l.take i).length=i:=by rw[List.length_take];omega
     have hlf:=fillO_len (l:=l.take i) (m:=n) (by omega)
     have hst:=fillO_set (l:=l.take i) (m:=n) (x:=y) (by omega)
     rw[hti,←take_snocQ hy]at hst
     have hT':=ev_trimQ N.toRatGLib (hl.at hy) (by omega)
     have hT : ∀ v,l[(i:Int).toNat]? = some v→Ev L 95 [.agg (eQ v)] (.agg (eQ y)):=fun v h=>by
      obtain rfl:=Option.some.inj (hy'.symm.trans h)
      exact hT'
     (repeat' (first|(refine CmpP.go (fun hc => ?_) (fun hc => ?_)<;>first|(exfalso;omega)|(conv=>whnf))|(refine Req.go ?_ ?_;omega;conv=>whnf)|(refine RdP.at (by assumption) ?_ rfl ?_;omega;conv=>whnf)|(refine AKM.x ?_;conv=>whnf)|(refine CallP.go (hT') ?_;conv=>whnf)))
     refine StR.nat (enc:=eO) (some y) rfl (fun e=>by cases e<;>rfl) (by omega) ?_
     (conv=>whnf)
     (repeat' (refine OpP.add ?_ ?_;omega;conv=>whnf))
     rw[hst]
     exact AKM.back [] (by (conv=>whnf);exact ⟨rfl,rfl,rfl⟩) (ih (i+1) (by omega) (by omega))
   ·obtain rfl:i=n:=by omega
    clear ih
    rw[fillO_full htl,←htq]at *
    rw[←htq]at htl
    (repeat' (first|(refine CmpP.go (fun hc => ?_) (fun hc => ?_)<;>first|(exfalso;omega)|(conv=>whnf))|(refine AKM.x ?_;conv=>whnf)))
    refine SnR.all (enc:=eQ) (fun _=>rfl) rfl htl.symm ?_
    (conv=>whnf)
    exact FinP.go rfl (by simp only[Clean,true_and];exact cl_eQs _)
 ·obtain ⟨m,rfl⟩ : ∃ m,n=m+1:=⟨n-1,by omega⟩
  obtain ⟨x,hx⟩ : ∃ x,l[m]? = some x:=⟨_,List.getElem?_eq_getElem (by omega)⟩
  have hx0:x=0:=by
   rcases Classical.em (x=0) with h|h
   ·exact h
   ·exact (hz (Or.inr ⟨m,x,rfl,hx,h⟩)).elim
  have hx':l[((m+1:Nat)-1:Int).toNat]? = some x:=by rw[show ((m+1:Nat)-1:Int).toNat=m by omega];exact hx
  have hS':=ev_signQ N.toRatGLib (hl.at hx) (by omega)
  have hs:=sgn_num (x:=x)
  generalize sgn x.num=s at *
  have hS : ∀ v,l[((m+1:Nat)-1:Int).toNat]? = some v→Ev L 97 [.agg (eQ v)] (.int .i64 s):=fun v h=>by
   obtain rfl:=Option.some.inj (hx'.symm.trans h)
   exact hS'
  have hs0:=hs.2 hx0
  (repeat' (first|(refine CmpP.go (fun hc => ?_) (fun hc => ?_)<;>first|(exfalso;omega)|(conv=>whnf))|(refine OpP.sub ?_ ?_;omega;conv=>whnf)|(refine RdP.at (by assumption) ?_ rfl ?_;omega;conv=>whnf)|(refine AKM.x ?_;conv=>whnf)|(refine CallP.go (hS') ?_;conv=>whnf)))
  rw[show ((m+1:Nat):Int)-1=(m:Int) by omega]
  exact AKM.back [] (by (conv=>whnf);exact ⟨rfl,rfl,rfl⟩) (ih m (by omega) ⟨by omega,by rw[p2,cutN,if_pos (by rw[List.getD_eq_getElem?_getD,hx];exact hx0)]⟩)
theorem ev_pScale (N:TrGLib L) (q:Bool) (l:List Rat) (d:Rat) (k j:Nat) (hl:Bs k l) (hd:Bt j d) (hk:k+j<2199023255552) (hn:l.length≤1000000):Ev L 190 [.sl q (l.map eQ),.agg (eQ d)] (.sl false ((trimQ (l.map (· * d))).map eQ)):=by
 refine Ev.x N.poly_Scale rfl rfl ?_
 (repeat' (first|(refine LenP.go ?_;conv=>whnf)|(refine AKM.x ?_;conv=>whnf)))
 refine MkR.go (enc:=eO) none l.length rfl rfl (by omega) ?_
 (conv=>whnf)
 skip
 refine AKM.loop1 (fun i=>l.length-i) (fun (i:Nat)=>i≤l.length) (fun i=>[(12,.int .i64 i)]) (fun i=>[(9,9,.rw 3 ((fillO ((l.map (· * d)).take i) l.length).map eO))]) [] [] 0 (by first|exact (by (conv=>whnf);exact ⟨rfl,rfl,rfl⟩)|(rw[List.take_zero,←fillO_nil];exact (by (conv=>whnf);exact ⟨rfl,rfl,rfl⟩))) (by omega) ?_
 intro i g1 ih
 by_cases hi:i<l.length
 ·obtain ⟨x,hx⟩ : ∃ x,l[i]? = some x:=⟨_,List.getElem?_eq_getElem hi⟩
  have hx':l[(i:Int).toNat]? = some x:=hx
  have hM:=ev_mulQ N.toRatGLib (hl.at hx) hd (by omega) (by omega)
  have hy:(l.map (· * d))[i]? = some (x*d):=by rw[List.getElem?_map,hx];rfl
  have hti:((l.map (· * d)).take i).length=i:=by rw[List.length_take,List.length_map];omega
  have hlf:=fillO_len (l:=(l.map (· * d)).take i) (m:=l.length) (by omega)
  have hst:=fillO_set (l:=(l.map (· * d)).take i) (m:=l.length) (x:=x*d) (by omega)
  rw[hti,←take_snocQ hy]at hst
  (repeat' (first|(refine CmpP.go (fun hc => ?_) (fun hc => ?_)<;>first|(exfalso;omega)|(conv=>whnf))|(refine Req.go ?_ ?_;omega;conv=>whnf)|(refine RdP.at (by assumption) ?_ rfl ?_;omega;conv=>whnf)|(refine AKM.x ?_;conv=>whnf)|(refine CallP.go (hM) ?_;conv=>whnf)))
  refine StR.nat (enc:=eO) (some (x*d)) rfl (fun e=>by cases e<;>rfl) (by omega) ?_
  (conv=>whnf)
  (repeat' (refine OpP.add ?_ ?_;omega;conv=>whnf))
  rw[hst]
  exact AKM.back [] (by (conv=>whnf);exact ⟨rfl,rfl,rfl⟩) (ih (i+1) (by omega) (by omega))
 ·obtain rfl:i=l.length:=by omega
  clear ih
  have hmb:Bs (k+j) (l.map (· * d)):=by
   intro y hy
   obtain ⟨x,hx,rfl⟩:=List.mem_map.1 hy
   exact (hl x hx).mul hd
  have hml:(l.map (· * d)).length=l.length:=List.length_map ..
  rw[List.take_of_length_le (Nat.le_of_eq hml),fillO_full hml,←hml]
  generalize l.map (· * d)=p at *
  (repeat' (first|(refine CmpP.go (fun hc => ?_) (fun hc => ?_)<;>first|(exfalso;omega)|(conv=>whnf))|(refine AKM.x ?_;conv=>whnf)))
  refine CalP.walk 1000 N.poly_cut rfl rfl ?_
  (repeat' (refine AKM.x ?_;conv=>whnf))
  refine AKM.loop1 (fun n=>n) (fun (n:Nat)=>n≤p.length∧cutN p p.length=cutN p n) (fun n=>[(3,.int .i64 n)]) (fun _=>[(9,9,.rw 3 (p.map eQ))]) [] [] p.length (by (conv=>whnf);exact ⟨rfl,rfl,rfl⟩) ⟨Nat.le_refl _,rfl⟩ ?_
  intro n ⟨p1,p2⟩ ih
  have done : ∀ {n:Nat},cutN p p.length=n→trimQ p=p.take n:=fun h=>by rw[trimQ,h]
  by_cases hz:n=0∨(∃ m x,n=m+1∧p[m]? = some x∧x≠0)
  ·have hcut:cutN p p.length=n:=by
    rw[p2]
    rcases hz with rfl|⟨m,x,rfl,h1,h2⟩
    ·rfl
    ·rw[cutN,if_neg]
     rw[List.getD_eq_getElem?_getD,h1];exact h2
   have htq:=done hcut
   have htl:(p.take n).length=n:=by rw[List.length_take];omega
   clear ih hcut p2 done
   rcases hz with h0|⟨m,x,hnm,h1,h2⟩
   case' inl=>(repeat' (first|(refine CmpP.go (fun hc => ?_) (fun hc => ?_)<;>first|(exfalso;omega)|(conv=>whnf))|(refine AKM.x ?_;conv=>whnf)))
   case' inr =>
    have h1':p[((n:Int)-1).toNat]? = some x:=by rw[show ((n:Int)-1).toNat=m by omega];exact h1
    have hS':=ev_signQ N.toRatGLib (hmb.at h1) (by omega)
    have hs:=sgn_num (x:=x)
    generalize sgn x.num=s at *
    have hS : ∀ v,p[((n:Int)-1).toNat]? = some v→Ev L 97 [.agg (eQ v)] (.int .i64 s):=fun v h=>by
     obtain rfl:=Option.some.inj (h1'.symm.trans h)
     exact hS'
    have hs0:s≠0:=fun h=>h2 (hs.1 h)
    (repeat' (first|(refine CmpP.go (fun hc => ?_) (fun hc => ?_)<;>first|(exfalso;omega)|(conv=>whnf))|(refine Req.go ?_ ?_;omega;conv=>whnf)|(refine OpP.sub ?_ ?_;omega;conv=>whnf)|(refine LdR.int ?_ (fun _=>rfl) (fun v hv => ?_);omega;conv=>whnf)|(refine AKM.x ?_;conv=>whnf)|(refine CallP.go (hS _ hv) ?_;conv=>whnf)))
   all_goals
    refine Bds.up n (by omega) (by omega) ?_
    (conv=>whnf)
    skip
    refine ⟨rfl,_,rfl,?_⟩
    (conv=>whnf)
    (refine SnR.part (enc:=eQ) (fun _=>rfl) (by omega) ?_;rw[List.drop_zero,Nat.sub_zero,←htq];exact FinP.go rfl (by simp only[Clean,true_and];exact cl_eQs _))
  ·obtain ⟨m,rfl⟩ : ∃ m,n=m+1:=⟨n-1,by omega⟩
   obtain ⟨x,hx⟩ : ∃ x,p[m]? = some x:=⟨_,List.getElem?_eq_getElem (by omega)⟩
   have hx0:x=0:=by
    rcases Classical.em (x=0) with h|h
    ·exact h
    ·exact (hz (Or.inr ⟨m,x,rfl,hx,h⟩)).elim
   have hx':p[((m+1:Nat)-1:Int).toNat]? = some x:=by rw[show ((m+1:Nat)-1:Int).toNat=m by omega];exact hx
   have hS':=ev_signQ N.toRatGLib (hmb.at hx) (by omega)
   have hs:=sgn_num (x:=x)
   generalize sgn x.num=s at *
   have hS : ∀ v,p[((m+1:Nat)-1:Int).toNat]? = some v→Ev L 97 [.agg (eQ v)] (.int .i64 s):=fun v h=>by
    obtain rfl:=Option.some.inj (hx'.symm.trans h)
    exact hS'
   have hs0:=hs.2 hx0
   (repeat' (first|(refine CmpP.go (fun hc => ?_) (fun hc => ?_)<;>first|(exfalso;omega)|(conv=>whnf))|(refine Req.go ?_ ?_;omega;conv=>whnf)|(refine OpP.sub ?_ ?_;omega;conv=>whnf)|(refine LdR.int ?_ (fun _=>rfl) (fun v hv => ?_);omega;conv=>whnf)|(refine AKM.x ?_;conv=>whnf)|(refine CallP.go (hS _ hv) ?_;conv=>whnf)))
   rw[show ((m+1:Nat):Int)-1=(m:Int) by omega]
   exact AKM.back [] (by (conv=>whnf);exact ⟨rfl,rfl,rfl⟩) (ih m (by omega) ⟨by omega,by rw[p2,cutN,if_pos (by rw[List.getD_eq_getElem?_getD,hx];exact hx0)]⟩)
theorem ev_pAdd (N:TrGLib L) (q1 q2:Bool) (p r:List Rat) (k j:Nat) (hp:Bs k p) (hr:Bs j r) (hk:k+j+1<2199023255552) (hn:p.length≤1000000) (hm:r.length≤p.length):Ev L 191 [.sl q1 (p.map eQ),.sl q2 (r.map eQ)] (.sl false ((trimQ (addP p r)).map eQ)):=by
 refine Ev.x N.poly_Add rfl rfl ?_
 (repeat' (first|(refine CmpP.go (fun hc => ?_) (fun hc => ?_)<;>first|(exfalso;omega)|(conv=>whnf))|(refine LenP.go ?_;conv=>whnf)|(refine AKM.x ?_;conv=>whnf)))
 refine MkR.go (enc:=eO) none p.length rfl rfl (by omega) ?_
 (conv=>whnf)
 skip
 have hml:=addP_len p r
 refine AKM.loop1 (fun i=>p.length-i) (fun (i:Nat)=>i≤p.length) (fun i=>[(19,.int .i64 i)]) (fun i=>[(16,16,.rw 3 ((fillO ((addP p r).take i) p.length).map eO))]) [] [] 0 (by first|exact (by (conv=>whnf);exact ⟨rfl,rfl,rfl⟩)|(rw[List.take_zero,←fillO_nil];exact (by (conv=>whnf);exact ⟨rfl,rfl,rfl⟩))) (by omega) ?_
 intro i g1 ih
 by_cases hi:i<p.length
 ·obtain ⟨x,hx⟩ : ∃ x,p[i]? = some x:=⟨_,List.getElem?_eq_getElem hi⟩
  have hx':p[(i:Int).toNat]? = some x:=hx
  have hy:=addP_at (r:=r) hi
  rw[gD_of hx]at hy
  have hti:((addP p r).take i).length=i:=by rw[List.length_take];omega
  have hlf:=fillO_len (l:=(addP p r).take i) (m:=p.length) (by omega)
  have hst:=fillO_set (l:=(addP p r).take i) (m:=p.length) (x:=x+r.getD i 0) (by omega)
  rw[hti,←take_snocQ hy]at hst
  by_cases h2:i<r.length
  ·obtain ⟨y,hy2⟩ : ∃ y,r[i]? = some y:=⟨_,List.getElem?_eq_getElem h2⟩
   have hy2':r[(i:Int).toNat]? = some y:=hy2
   rw[gD_of hy2]at hst
   have hA:=ev_addQ N.toRatGLib (hp.at hx) (hr.at hy2) (by omega) (by omega)
   (repeat' (first|(refine CmpP.go (fun hc => ?_) (fun hc => ?_)<;>first|(exfalso;omega)|(conv=>whnf))|(refine Req.go ?_ ?_;omega;conv=>whnf)|(refine LenP.go ?_;conv=>whnf)|(refine RdP.at (by assumption) ?_ rfl ?_;omega;conv=>whnf)|(refine AKM.x ?_;conv=>whnf)|(refine CallP.go (hA) ?_;conv=>whnf)))
   refine StR.nat (enc:=eO) (some (x+y)) rfl (fun e=>by cases e<;>rfl) (by omega) ?_
   (conv=>whnf)
   (repeat' (refine OpP.add ?_ ?_;omega;conv=>whnf))
   rw[hst]
   exact AKM.back [] (by (conv=>whnf);exact ⟨rfl,rfl,rfl⟩) (ih (i+1) (by omega) (by omega))
  ·rw[gD_ge (l:=r) (by omega),Rat.add_zero]at hst
   have hT:=ev_trimQ N.toRatGLib (hp.at hx) (by omega)
   (repeat' (first|(refine CmpP.go (fun hc => ?_) (fun hc => ?_)<;>first|(exfalso;omega)|(conv=>whnf))|(refine Req.go ?_ ?_;omega;conv=>whnf)|(refine LenP.go ?_;conv=>whnf)|(refine RdP.at (by assumption) ?_ rfl ?_;omega;conv=>whnf)|(refine AKM.x ?_;conv=>whnf)|(refine CallP.go (hT) ?_;conv=>whnf)))
   refine StR.nat (enc:=eO) (some x) rfl (fun e=>by cases e<;>rfl) (by omega) ?_
   (conv=>whnf)
   (repeat' (refine OpP.add ?_ ?_;omega;conv=>whnf))
   rw[hst]
   exact AKM.back [] (by (conv=>whnf);exact ⟨rfl,rfl,rfl⟩) (ih (i+1) (by omega) (by omega))
 ·obtain rfl:i=p.length:=by omega
  clear ih
  have hmb:Bs (k+j+1) (addP p r):=by
   intro z hz
   obtain ⟨i,hi⟩:=List.getElem?_of_mem hz
   have h1:=(List.getElem?_eq_some_iff.1 hi).1
   rw[hml]at h1
   rw[addP_at h1]at hi
   obtain rfl:=Option.some.inj hi
   obtain ⟨x,hx⟩ : ∃ x,p[i]? = some x:=⟨_,List.getElem?_eq_getElem h1⟩
   rw[gD_of hx]
   by_cases h2:i<r.length
   ·obtain ⟨y,hy2⟩ : ∃ y,r[i]? = some y:=⟨_,List.getElem?_eq_getElem h2⟩
    rw[gD_of hy2]
    exact (hp.at hx).add (hr.at hy2)
   ·rw[gD_ge (l:=r) (by omega),Rat.add_zero]
    exact (hp.at hx).le (by omega)
  rw[List.take_of_length_le (Nat.le_of_eq hml),fillO_full hml,←hml]
  generalize addP p r=u at *
  (repeat' (first|(refine CmpP.go (fun hc => ?_) (fun hc => ?_)<;>first|(exfalso;omega)|(conv=>whnf))|(refine AKM.x ?_;conv=>whnf)))
  refine CalP.walk 1000 N.poly_cut rfl rfl ?_
  (repeat' (refine AKM.x ?_;conv=>whnf))
  refine AKM.loop1 (fun n=>n) (fun (n:Nat)=>n≤u.length∧cutN u u.length=cutN u n) (fun n=>[(3,.int .i64 n)]) (fun _=>[(16,16,.rw 3 (u.map eQ))]) [] [] u.length (by (conv=>whnf);exact ⟨rfl,rfl,rfl⟩) ⟨Nat.le_refl _,rfl⟩ ?_
  intro n ⟨p1,p2⟩ ih
  have done : ∀ {n:Nat},cutN u u.length=n→trimQ u=u.take n:=fun h=>by rw[trimQ,h]
  by_cases hz:n=0∨(∃ m x,n=m+1∧u[m]? = some x∧x≠0)
  ·have hcut:cutN u u.length=n:=by
    rw[p2]
    rcases hz with rfl|⟨m,x,rfl,h1,h2⟩
    ·rfl
    ·rw[cutN,if_neg]
     rw[List.getD_eq_getElem?_getD,h1];exact h2
   have htq:=done hcut
   have htl:(u.take n).length=n:=by rw[List.length_take];omega
   clear ih hcut p2 done
   rcases hz with h0|⟨m,x,hnm,h1,h2⟩
   case' inl=>(repeat' (first|(refine CmpP.go (fun hc => ?_) (fun hc => ?_)<;>first|(exfalso;omega)|(conv=>whnf))|(refine AKM.x ?_;conv=>whnf)))
   case' inr =>
    have h1':u[((n:Int)-1).toNat]? = some x:=by rw[show ((n:Int)-1).toNat=m by omega];exact h1
    have hS':=ev_signQ N.toRatGLib (hmb.at h1) (by omega)
    have hs:=sgn_num (x:=x)
    generalize sgn x.num=s at *
    have hS : ∀ v,u[((n:Int)-1).toNat]? = some v→Ev L 97 [.agg (eQ v)] (.int .i64 s):=fun v h=>by
     obtain rfl:=Option.some.inj (h1'.symm.trans h)
     exact hS'
    have hs0:s≠0:=fun h=>h2 (hs.1 h)
    (repeat' (first|(refine CmpP.go (fun hc => ?_) (fun hc => ?_)<;>first|(exfalso;omega)|(conv=>whnf))|(refine Req.go ?_ ?_;omega;conv=>whnf)|(refine OpP.sub ?_ ?_;omega;conv=>whnf)|(refine LdR.int ?_ (fun _=>rfl) (fun v hv => ?_);omega;conv=>whnf)|(refine AKM.x ?_;conv=>whnf)|(refine CallP.go (hS _ hv) ?_;conv=>whnf)))
   all_goals
    refine Bds.up n (by omega) (by omega) ?_
    (conv=>whnf)
    skip
    refine ⟨rfl,_,rfl,?_⟩
    (conv=>whnf)
    (refine SnR.part (enc:=eQ) (fun _=>rfl) (by omega) ?_;rw[List.drop_zero,Nat.sub_zero,←htq];exact FinP.go rfl (by simp only[Clean,true_and];exact cl_eQs _))
  ·obtain ⟨m,rfl⟩ : ∃ m,n=m+1:=⟨n-1,by omega⟩
   obtain ⟨x,hx⟩ : ∃ x,u[m]? = some x:=⟨_,List.getElem?_eq_getElem (by omega)⟩
   have hx0:x=0:=by
    rcases Classical.em (x=0) with h|h
    ·exact h
    ·exact (hz (Or.inr ⟨m,x,rfl,hx,h⟩)).elim
   have hx':u[((m+1:Nat)-1:Int).toNat]? = some x:=by rw[show ((m+1:Nat)-1:Int).toNat=m by omega];exact hx
   have hS':=ev_signQ N.toRatGLib (hmb.at hx) (by omega)
   have hs:=sgn_num (x:=x)
   generalize sgn x.num=s at *
   have hS : ∀ v,u[((m+1:Nat)-1:Int).toNat]? = some v→Ev L 97 [.agg (eQ v)] (.int .i64 s):=fun v h=>by
    obtain rfl:=Option.some.inj (hx'.symm.trans h)
    exact hS'
   have hs0:=hs.2 hx0
   (repeat' (first|(refine CmpP.go (fun hc => ?_) (fun hc => ?_)<;>first|(exfalso;omega)|(conv=>whnf))|(refine Req.go ?_ ?_;omega;conv=>whnf)|(refine OpP.sub ?_ ?_;omega;conv=>whnf)|(refine LdR.int ?_ (fun _=>rfl) (fun v hv => ?_);omega;conv=>whnf)|(refine AKM.x ?_;conv=>whnf)|(refine CallP.go (hS _ hv) ?_;conv=>whnf)))
   rw[show ((m+1:Nat):Int)-1=(m:Int) by omega]
   exact AKM.back [] (by (conv=>whnf);exact ⟨rfl,rfl,rfl⟩) (ih m (by omega) ⟨by omega,by rw[p2,cutN,if_pos (by rw[List.getD_eq_getElem?_getD,hx];exact hx0)]⟩)
end Go.Eng

namespace Go.Eng
open F
attribute [local irreducible] AKM CmpP Req OpP UnP ConvP RdP LdR StR MkR LenP AppR AppN CpyR RowP SnR Bds SlS CallP CalP FinP pw LdM GetM SetM PutM MkM AppM SnM FlP CallR
set_option maxHeartbeats 8000000
variable {L:Lib}
theorem getD_bt {l:List Rat} {k:Nat} (h:Bs k l) (i:Nat):Bt k (l.getD i 0):=by
 rw[List.getD_eq_getElem?_getD]
 cases e:l[i]? with
 | none=>exact Bt.zero k
 | some x=>exact h.at e
theorem ev_r5_At (N:TrGLib L) (q:Bool) (l:List Rat) (i k:Nat) (hl:Bs k l) (hk:k<2199023255552) (hn:l.length≤1000000):Ev L 192 [.sl q (l.map eQ),.int .i64 (i:Int)] (.agg (eQ (l.getD i 0))):=by
 have hO:=ev_r3_Of N.toRefGLib 0 (by omega)
 refine Ev.x N.ref05_At rfl rfl ?_
 by_cases hi:i<l.length
 ·obtain ⟨x,hx⟩ : ∃ x,l[i]? = some x:=⟨_,List.getElem?_eq_getElem hi⟩
  have hx':l[(i:Int).toNat]? = some x:=hx
  have hT:=ev_trim3 N.toRefGLib (hl.at hx) hk
  rw[gD_of hx]
  (repeat' (first|(refine CmpP.go (fun hc => ?_) (fun hc => ?_)<;>first|(exfalso;omega)|(conv=>whnf))|(refine LenP.go ?_;conv=>whnf)|(refine RdP.at (by assumption) ?_ rfl ?_;omega;conv=>whnf)|(refine AKM.x ?_;conv=>whnf)|(refine CallP.go (hT) ?_;conv=>whnf)))
  exact FinP.go rfl (cl_eQ _)
 ·rw[gD_ge (l:=l) (by omega)]
  (repeat' (first|(refine CmpP.go (fun hc => ?_) (fun hc => ?_)<;>first|(exfalso;omega)|(conv=>whnf))|(refine LenP.go ?_;conv=>whnf)|(refine AKM.x ?_;conv=>whnf)|(refine CallP.go (hO) ?_;conv=>whnf)))
  exact FinP.go rfl (cl_eQ _)
theorem ev_r5_Scale (N:TrGLib L) (q:Bool) (l:List Rat) (d:Rat) (k j:Nat) (hl:Bs k l) (hd:Bt j d) (hk:k+j<2199023255552) (hn:l.length≤1000000):Ev L 194 [.sl q (l.map eQ),.agg (eQ d)] (.sl false ((trimQ (l.map (· * d))).map eQ)):=by
 have hmb:Bs (k+j) (l.map (· * d)):=by
  intro y hy
  obtain ⟨x,hx,rfl⟩:=List.mem_map.1 hy
  exact (hl x hx).mul hd
 have hml:(l.map (· * d)).length=l.length:=List.length_map ..
 have hTr:=fun q=>ev_r5_Trim N.toR05GLib q (l.map (· * d)) (k+j) hmb hk (by omega)
 refine Ev.x N.ref05_Scale rfl rfl ?_
 (repeat' (first|(refine LenP.go ?_;conv=>whnf)|(refine AKM.x ?_;conv=>whnf)))
 refine AKM.loop1 (fun i=>l.length-i) (fun (i:Nat)=>i≤l.length) (fun i=>[(10,.int .i64 i),(5,.row 5 0 3 0 i)]) (fun i=>[(5,5,.rw 3 (((l.map (· * d)).take i).map eQ))]) [] [] 0 (by (conv=>whnf);exact ⟨rfl,rfl,rfl⟩) (by omega) ?_
 intro i g1 ih
 have hti:((l.map (· * d)).take i).length=i:=by rw[List.length_take];omega
 by_cases hi:i<l.length
 ·obtain ⟨x,hx⟩ : ∃ x,l[i]? = some x:=⟨_,List.getElem?_eq_getElem hi⟩
  have hx':l[(i:Int).toNat]? = some x:=hx
  have hM:=ev_mul3 N.toRefGLib (hl.at hx) hd (by omega) (by omega)
  have hy:(l.map (· * d))[i]? = some (x*d):=by rw[List.getElem?_map,hx];rfl
  have hsn:=take_snocQ hy
  have hti1:((l.map (· * d)).take (i+1)).length=i+1:=by rw[List.length_take];omega
  (repeat' (first|(refine CmpP.go (fun hc => ?_) (fun hc => ?_)<;>first|(exfalso;omega)|(conv=>whnf))|(refine RdP.at (by assumption) ?_ rfl ?_;omega;conv=>whnf)|(refine RowP.e1 ?_;conv=>whnf)|(refine AKM.x ?_;conv=>whnf)|(refine CallP.go (hM) ?_;conv=>whnf)))
  refine AppR.one (enc:=eQ) (x*d) rfl hti.symm rfl (by omega) (by omega) ?_
  rw[←hsn,hti1]
  (conv=>whnf)
  (repeat' (refine OpP.add ?_ ?_;omega;conv=>whnf))
  exact AKM.back [(5,19)] (by (conv=>whnf);exact ⟨rfl,rfl,rfl⟩) (ih (i+1) (by omega) (by omega))
 ·obtain rfl:i=l.length:=by omega
  clear ih
  rw[List.take_of_length_le (Nat.le_of_eq hml)]at hti ⊢
  rw[←hml]
  generalize l.map (· * d)=p at *
  (repeat' (first|(refine CmpP.go (fun hc => ?_) (fun hc => ?_)<;>first|(exfalso;omega)|(conv=>whnf))|(refine SnR.all (fun _=>rfl) rfl ?_ ?_;(first|rfl|simp);conv=>whnf)|(refine AKM.x ?_;conv=>whnf)|(refine CallP.go (hTr _) ?_;conv=>whnf)))
  exact FinP.go rfl (by simp only[Clean,true_and];exact cl_eQs _)
theorem ev_r5_Add (N:TrGLib L) (q1 q2:Bool) (p r:List Rat) (k j:Nat) (hp:Bs k p) (hr:Bs j r) (hk:j+k+1<2199023255552) (hn:r.length≤1000000) (hm:p.length≤r.length):Ev L 193 [.sl q1 (p.map eQ),.sl q2 (r.map eQ)] (.sl false ((trimQ (addP r p)).map eQ)):=by
 have hml:=addP_len r p
 have hmb:Bs (j+k+1) (addP r p):=by
  intro z hz
  obtain ⟨i,hi⟩:=List.getElem?_of_mem hz
  have h1:=(List.getElem?_eq_some_iff.1 hi).1
  rw[hml]at h1
  rw[addP_at h1]at hi
  obtain rfl:=Option.some.inj hi
  exact (getD_bt hr i).add (getD_bt hp i)
 have hTr:=fun q=>ev_r5_Trim N.toR05GLib q (addP r p) (j+k+1) hmb hk (by omega)
 refine Ev.x N.ref05_Add rfl rfl ?_
 (repeat' (refine AKM.x ?_;conv=>whnf))
 refine AKM.loop1 (fun i=>r.length-i) (fun (i:Nat)=>i≤r.length) (fun i=>[(6,.int .i64 i),(5,.row 5 0 3 0 i)]) (fun i=>[(5,5,.rw 3 (((addP r p).take i).map eQ))]) [] [] 0 (by (conv=>whnf);exact ⟨rfl,rfl,rfl⟩) (by omega) ?_
 intro i g1 ih
 have hti:((addP r p).take i).length=i:=by rw[List.length_take];omega
 have hAp:=fun q=>ev_r5_At N q p i k hp (by omega) (by omega)
 have hAr:=fun q=>ev_r5_At N q r i j hr (by omega) (by omega)
 by_cases hi:i<r.length
 ·have hA:=ev_add3 N.toRefGLib (getD_bt hp i) (getD_bt hr i) (by omega) (by omega)
  rw[Rat.add_comm]at hA
  have hsn:=take_snocQ (addP_at (r:=p) hi)
  have hti1:((addP r p).take (i+1)).length=i+1:=by rw[List.length_take];omega
  generalize p.getD i 0=x at *
  generalize r.getD i 0=y at *
  by_cases h2:i<p.length
  ·(repeat' (first|(refine CmpP.go (fun hc => ?_) (fun hc => ?_)<;>first|(exfalso;omega)|(conv=>whnf))|(refine LenP.go ?_;conv=>whnf)|(refine RowP.e1 ?_;conv=>whnf)|(refine AKM.x ?_;conv=>whnf)|(refine CallP.go (hAp _) ?_;conv=>whnf)|(refine CallP.go (hAr _) ?_;conv=>whnf)|(refine CallP.go (hA) ?_;conv=>whnf)))
   refine AppR.one (enc:=eQ) (y+x) rfl hti.symm rfl (by omega) (by omega) ?_
   rw[←hsn,hti1]
   (conv=>whnf)
   (repeat' (refine OpP.add ?_ ?_;omega;conv=>whnf))
   exact AKM.back [(5,28)] (by (conv=>whnf);exact ⟨rfl,rfl,rfl⟩) (ih (i+1) (by omega) (by omega))
  ·(repeat' (first|(refine CmpP.go (fun hc => ?_) (fun hc => ?_)<;>first|(exfalso;omega)|(conv=>whnf))|(refine LenP.go ?_;conv=>whnf)|(refine RowP.e1 ?_;conv=>whnf)|(refine AKM.x ?_;conv=>whnf)|(refine CallP.go (hAp _) ?_;conv=>whnf)|(refine CallP.go (hAr _) ?_;conv=>whnf)|(refine CallP.go (hA) ?_;conv=>whnf)))
   refine AppR.one (enc:=eQ) (y+x) rfl hti.symm rfl (by omega) (by omega) ?_
   rw[←hsn,hti1]
   (conv=>whnf)
   (repeat' (refine OpP.add ?_ ?_;omega;conv=>whnf))
   exact AKM.back [(5,28)] (by (conv=>whnf);exact ⟨rfl,rfl,rfl⟩) (ih (i+1) (by omega) (by omega))
 ·obtain rfl:i=r.length:=by omega
  clear ih
  rw[List.take_of_length_le (Nat.le_of_eq hml)]at hti ⊢
  rw[←hml]
  generalize addP r p=u at *
  (repeat' (first|(refine CmpP.go (fun hc => ?_) (fun hc => ?_)<;>first|(exfalso;omega)|(conv=>whnf))|(refine LenP.go ?_;conv=>whnf)|(refine SnR.all (fun _=>rfl) rfl ?_ ?_;(first|rfl|simp);conv=>whnf)|(refine AKM.x ?_;conv=>whnf)|(refine CallP.go (hTr _) ?_;conv=>whnf)))
  exact FinP.go rfl (by simp only[Clean,true_and];exact cl_eQs _)
end Go.Eng

namespace Go.Eng
def sumQ (vals:List Rat):List (Int × Int)→Rat
 | []=>0
 | t::ts=>(t.2:Rat)*vals.getD t.1.toNat 0+sumQ vals ts
def exS (u:Rat) (ex:Int):Nat→List Rat→List (List (Int × Int))→List Rat
 | _,vals,[]=>vals
 | k,vals,ts::r=>exS u ex (k+1) (vals++[sumQ vals ts/u+(if (k:Int)=ex then 1 else 0)]) r
theorem Bs.getD {k:Nat} {l:List Rat} (h:Bs k l) (i:Nat):Bt k (l.getD i 0):=by
 rw[List.getD_eq_getElem?_getD]
 cases e:l[i]? with
 | none=>exact Bt.zero k
 | some x=>exact h.at e
theorem Bs.sum {k j:Nat} {vals:List Rat} (hv:Bs k vals) : ∀ (ts:List (Int × Int)),(∀ t∈ts,Bt j ((t.2:Int):Rat))→Bt (ts.length*(j+k+1)) (sumQ vals ts)
 | [],_=>Bt.zero _
 | t::ts,h=>by
  have h1:=(h t (by simp)).mul (hv.getD t.1.toNat)
  have h2:=Bs.sum hv ts (fun u hu=>h u (by simp [hu]))
  refine (h1.add h2).le ?_
  rw[List.length_cons,Nat.succ_mul];omega
def LinV (C:List (List Rat)) (z vals:List Rat):Prop := ∀ m,m<vals.length→vals.getD m 0=dotQ (C.map fun c=>c.getD m 0) z
theorem dotQ_smul (x:Rat) : ∀ (a z:List Rat),dotQ (a.map fun c=>x*c) z=x*dotQ a z
 | [],z=>by cases z<;>simp [dotQ]
 | p::a,[]=>by simp [dotQ]
 | p::a,q::z=>by
  simp only[List.map_cons,dotQ]
  rw[dotQ_smul x a z];grind
theorem dotQ_mapadd {α:Type} (f g:α→Rat) : ∀ (a:List α) (z:List Rat),dotQ (a.map fun c=>f c+g c) z=dotQ (a.map f) z+dotQ (a.map g) z
 | [],z=>by cases z<;>(simp only[List.map_nil,dotQ];grind)
 | p::a,[]=>by simp only[List.map_cons,dotQ];grind
 | p::a,q::z=>by
  simp only[List.map_cons,dotQ]
  rw[dotQ_mapadd f g a z];grind
theorem dotQ_zero {α:Type} : ∀ (a:List α) (z:List Rat),dotQ (a.map fun _=>(0:Rat)) z=0
 | [],z=>by cases z<;>rfl
 | p::a,[]=>rfl
 | p::a,q::z=>by
  simp only[List.map_cons,dotQ]
  rw[dotQ_zero a z];grind
theorem LinV.sum {C:List (List Rat)} {z vals:List Rat} (h:LinV C z vals) : ∀ (ts:List (Int × Int)),(∀ t∈ts,t.1.toNat<vals.length)→sumQ vals ts=dotQ (C.map fun c=>sumQ c ts) z
 | [],_=>(dotQ_zero C z).symm
 | t::ts,ht=>by
  simp only[sumQ]
  rw[dotQ_mapadd (fun c=>(t.2:Rat)*c.getD t.1.toNat 0) (fun c=>sumQ c ts),←LinV.sum h ts (fun u hu=>ht u (by simp [hu])),h _ (ht t (by simp))]
  have:=dotQ_smul (t.2:Rat) (C.map fun c=>c.getD t.1.toNat 0) z
  rw[List.map_map]at this
  rw[←this];rfl
theorem getD_snoc_lt {l:List Rat} {x:Rat} {m:Nat} (h:m<l.length):(l++[x]).getD m 0=l.getD m 0:=by
 rw[List.getD_eq_getElem?_getD,List.getD_eq_getElem?_getD,List.getElem?_append_left h]
theorem getD_snoc_eq {l:List Rat} {x:Rat} {m:Nat} (h:m=l.length):(l++[x]).getD m 0=x:=by
 subst h
 rw[List.getD_eq_getElem?_getD,List.getElem?_append_right (Nat.le_refl _)];simp
theorem LinV.all {u:Rat} (hu:u≠0) {z:List Rat} : ∀ (l:List (List (Int × Int))) (k:Nat) (C:List (List Rat)) (vals:List Rat),LinV C z vals→(∀ c∈C,c.length=vals.length)→(∀ i ts,l[i]? = some ts → ∀ t∈ts,t.1.toNat<vals.length+i) →
  LinV (C.map fun c=>exS u (-1) k c l) z (exS u (-1) k vals l)
 | [],_,C,vals,h,_,_=>by
  have e:(C.map fun c=>exS u (-1) 0 c [])=C:=by
   simp [exS]
  simpa [exS] using h
 | ts::l,k,C,vals,h,hc,ht=>by
  have hts:=ht 0 ts rfl
  have e0 : ¬ (k:Int) = -1:=by omega
  simp only[exS,if_neg e0,Rat.add_zero]
  have hs:=h.sum ts (fun t h1=>by have:=hts t h1;omega)
  have hstep:LinV (C.map fun c=>c++[sumQ c ts/u]) z (vals++[sumQ vals ts/u]):=by
   intro m hm
   simp only[List.length_append,List.length_cons,List.length_nil]at hm
   rw[List.map_map]
   by_cases hm2:m<vals.length
   ·rw[getD_snoc_lt hm2,h m hm2]
    congr 1
    refine List.map_congr_left fun c hcm => ?_
    simp only[Function.comp]
    rw[getD_snoc_lt (by rw[hc c hcm];exact hm2)]
   ·rw[getD_snoc_eq (by omega)]
    have e1:(C.map ((fun c=>c.getD m 0) ∘ fun c=>c++[sumQ c ts/u]))=C.map fun c=>u⁻¹*sumQ c ts:=by
     refine List.map_congr_left fun c hcm => ?_
     simp only[Function.comp]
     rw[getD_snoc_eq (by rw[hc c hcm];omega),Rat.div_def,Rat.mul_comm]
    rw[e1,hs,Rat.div_def,Rat.mul_comm]
    have:=dotQ_smul u⁻¹ (C.map fun c=>sumQ c ts) z
    rw[List.map_map]at this
    rw[←this];rfl
  have ih:=LinV.all hu l (k+1) (C.map fun c=>c++[sumQ c ts/u]) (vals++[sumQ vals ts/u]) hstep (fun c hcm=>by
   obtain ⟨c0,h0,rfl⟩:=List.mem_map.1 hcm
   simp [hc c0 h0]) (fun i ts2 h2 t h3=>by
   have:=ht (i+1) ts2 h2 t h3
   simp;omega)
  rw[List.map_map]at ih
  exact ih
theorem Bt.ofInt {k:Nat} {z:Int} (h:z.natAbs≤2^k):Bt k ((z:Int):Rat):=⟨by rw[Rat.num_intCast];exact h,by rw[Rat.den_intCast];exact Nat.one_le_two_pow⟩
end Go.Eng

namespace Go.Eng
end Go.Eng

namespace Go.Eng
variable {L:Lib}
def RetR (fn:AFn) (z:Nat) (es:List (List AV)) (tm:Tm) (M:Mem):Prop:=match fn.res with
 | [.tmp t]=>match tg tm t with
  | .row k 0 z' 0 n=>match mget M k with
   | some (_,.rw z'' es')=>z'=z∧z''=z∧n=es.length∧es'=es∧CleanLL es
   | _=>False
  | _=>False
 | _=>False
theorem EvR.x {f:Nat} {fn:AFn} {vs:List AV} {z:Nat} {es:List (List AV)} (hL:L f=some fn) (hp:Nat.beq vs.length fn.pars=true) (hd:datAL vs=true) (h:AKM L [.code fn.body] (initTm 0 vs) [] (RetR fn z es)):EvR L f vs z es:=by
 obtain ⟨n,c,st',hr,σ,tm,M,hR,hq⟩:=h (fun _ _=>(0,0)) ⟨initTm 0 vs,Own.emp⟩ ⟨fun j=>Or.inr (by rw[tg_eq];exact datAL_tg hd j),⟨(fun _ _ _ e=>by cases e),(fun _ _ _ e=>by simp [mref,mget]at e),(fun _ _ _ e=>by simp [mref,mget]at e),(fun _ _ _ _ _ _ e=>by simp [mref,mget]at e)⟩⟩
 unfold RetR at hq
 split at hq
 ·rename_i t hres
  split at hq
  ·rename_i k z' m htm
   split at hq
   ·rename_i s z'' es' hM
    obtain ⟨rfl,rfl,rfl,rfl,hcl⟩:=hq
    have hv:tget st'.tm t = .row (σ k 0).1 (σ k 0).2 z'' 0 es'.length:=by
     rcases hR.tm t with e|e
     ·rw[htm]at e;cases e
     ·rw[e,htm];rfl
    have hb:=hR.sat.blk k 0 (.rw z'' es') (by simp only[mref,hM])
    obtain ⟨q,hq⟩:=EvI.intro (r := .row (σ k 0).1 (σ k 0).2 z'' 0 es'.length) (o':=st'.own) hL (beq_iff.1 hp) ⟨n,c,st',hr,by simp [hres,resOf,hv,resTmp,resVal],rfl⟩
    refine ⟨q,?_⟩
    simp only[hq,adoptR,Own.get,hb]
    rw[if_pos (show (Cel.blk σ k (.rw z'' es')).es.length=es'.length∧CleanLL (Cel.blk σ k (.rw z'' es')).es from ⟨rfl,hcl⟩)]
    rfl
   ·exact hq.elim
  ·exact hq.elim
 ·exact hq.elim
theorem CallR.go {α:Type} {enc:α→List AV} {l:List α} {f z:Nat} {vs:List AV} {K:Nat→List (List AV)→Nat→Prop} (n:Nat) (h:EvR L f vs z (l.map enc)) (hn:n=l.length) (hk:K z (l.map enc) n):CallR L f vs K:=⟨z,_,n,h,by simpa using hn,hk⟩
end Go.Eng



namespace Go.Eng
open F
attribute [local irreducible] AKM CmpP Req OpP UnP ConvP RdP LdR StR MkR LenP AppR AppN CpyR RowP SnR Bds SlS CallP CalP FinP pw LdM GetM SetM PutM MkM AppM SnM FlP CallR
set_option maxHeartbeats 4000000
variable {L:Lib}
theorem unit_set (m p:Nat):(List.replicate m (0:Rat)).set p 1=unitL m p:=by
 refine List.ext_getElem? fun j => ?_
 simp only[unitL,List.getElem?_set,List.getElem?_map,List.getElem?_replicate,List.length_replicate]
 by_cases h:j<m
 ·rw[List.getElem?_range h]
  by_cases e:p=j
  ·subst e;simp [h]
  ·simp [h,e];intro h3;omega
 ·rw[List.getElem?_eq_none (by simpa using h)]
  simp [h]
  intro e;omega
theorem Bs.unit (k m:Nat) (p:Int):Bs k (unitL m p):=by
 intro x hx
 simp only[unitL,List.mem_map]at hx
 obtain ⟨a,_,rfl⟩:=hx
 split
 ·exact Bt.one k
 ·exact Bt.zero k
theorem ev_zerosR (N:SysGLib L) (m:Nat) (hm:m≤65536):EvR L 131 [.int .i64 (m:Int)] 3 ((List.replicate m (0:Rat)).map eQ):=by
 have hO:=ev_rational_Of N.toRatGLib 0 (by omega)
 refine EvR.x N.network_zeros rfl rfl ?_
 (repeat' (refine AKM.x ?_;conv=>whnf))
 refine MkR.go (enc:=eO) none m rfl rfl (by omega) ?_
 (conv=>whnf)
 skip
 refine AKM.loop1 (fun i=>m-i) (fun (i:Nat)=>i≤m) (fun i=>[(9,.int .i64 i)]) (fun i=>[(131006,131006,.rw 3 ((fillO (List.replicate i 0) m).map eO))]) [] [] 0 (by first|exact (by (conv=>whnf);exact ⟨rfl,rfl,rfl⟩)|(rw[←fillO_nil];exact (by (conv=>whnf);exact ⟨rfl,rfl,rfl⟩))) (by omega) ?_
 intro i p1 ih
 by_cases hi:i<m
 ·have hl:=fillO_len (l:=List.replicate i (0:Rat)) (m:=m) (by simp;omega)
  have hs:=fillO_set (l:=List.replicate i (0:Rat)) (m:=m) (x:=0) (by simp;omega)
  rw[List.length_replicate]at hs
  (repeat' (first|(refine CmpP.go (fun hc => ?_) (fun hc => ?_)<;>first|(exfalso;omega)|(conv=>whnf))|(refine Req.go ?_ ?_;omega;conv=>whnf)|(refine AKM.x ?_;conv=>whnf)|(refine CallP.go (hO) ?_;conv=>whnf)))
  refine StR.nat (enc:=eO) (some 0) rfl (fun e=>by cases e<;>rfl) (by omega) ?_
  (conv=>whnf)
  (repeat' (refine OpP.add ?_ ?_;omega;conv=>whnf))
  rw[hs]
  rw[show List.replicate i (0:Rat)++[0]=List.replicate (i+1) 0 by rw[List.replicate_succ']]
  exact AKM.back [] (by (conv=>whnf);exact ⟨rfl,rfl,rfl⟩) (ih (i+1) (by omega) (by omega))
 obtain rfl:i=m:=by omega
 clear ih
 rw[fillO_full (by simp)]
 (repeat' (first|(refine CmpP.go (fun hc => ?_) (fun hc => ?_)<;>first|(exfalso;omega)|(conv=>whnf))|(refine AKM.x ?_;conv=>whnf)))
 exact ⟨rfl,rfl,by simp,rfl,cl_eQs _⟩
end Go.Eng

namespace Go.Eng
open F
attribute [local irreducible] AKM CmpP Req OpP UnP ConvP RdP LdR StR MkR LenP AppR AppN CpyR RowP SnR Bds SlS CallP CalP FinP pw LdM GetM SetM PutM MkM AppM SnM FlP CallR
set_option maxHeartbeats 4000000
variable {L:Lib}
theorem fillM_set {α:Type} (a b:α) {t m:Nat} (_:t≤m) (h:t<m):(List.replicate t a++List.replicate (m-t) b).set t a=List.replicate (t+1) a++List.replicate (m-(t+1)) b:=by
 obtain ⟨k,hk⟩ : ∃ k,m-t=k+1:=⟨m-t-1,by omega⟩
 rw[List.set_append_right _ _ (by simp),hk,List.length_replicate,Nat.sub_self,List.replicate_succ,List.set_cons_zero,show m-(t+1)=k by omega,List.replicate_succ',List.append_assoc]
 rfl
def fz {α:Type} (z:α) (l:List α) (m:Nat):List α:=l++List.replicate (m-l.length) z
theorem fz_len {α:Type} {z:α} {l:List α} {m:Nat} (h:l.length≤m):(fz z l m).length=m:=by simp [fz];omega
theorem fz_set {α:Type} {z x:α} {l:List α} {m:Nat} (h:l.length<m):(fz z l m).set l.length x=fz z (l++[x]) m:=by
 unfold fz
 obtain ⟨k,hk⟩ : ∃ k,m-l.length=k+1:=⟨m-l.length-1,by omega⟩
 rw[List.set_append_right _ _ (by simp),hk,Nat.sub_self,List.replicate_succ,List.set_cons_zero,List.length_append,List.length_singleton,show m-(l.length+1)=k by omega,List.append_assoc]
 rfl
theorem fz_at {α:Type} {z:α} {l:List α} {m:Nat} (h:l.length<m):(fz z l m)[l.length]? = some z:=by
 unfold fz
 rw[List.getElem?_append_right (by omega),Nat.sub_self,List.getElem?_replicate,if_pos (by omega)]
theorem fz_full {α:Type} {z:α} {l:List α} {m:Nat} (h:l.length=m):fz z l m=l:=by simp [fz,h]
theorem list_set_self {α:Type} {l:List α} {i:Nat} {x:α} (h:l[i]? = some x):l.set i x=l:=by
 refine List.ext_getElem? fun j => ?_
 rw[List.getElem?_set]
 split
 ·rename_i e;subst e
  rw[h];split
  ·rfl
  ·rename_i h2;rw[List.getElem?_eq_none (by omega)]at h;cases h
 ·rfl
theorem take_snocA {α:Type} {l:List α} {i:Nat} {x:α} (h:l[i]? = some x):l.take (i+1)=l.take i++[x]:=by
 rw[List.take_add_one,h];rfl
end Go.Eng

namespace Go.Eng
def colQ (m:List (List Rat)) (j:Nat):List Rat:=m.map fun r=>r.getD j 0
def mulRow (r:List Rat) (m:List (List Rat)) (n:Nat):List Rat:=(List.range n).map fun j=>dotQ r (colQ m j)
def mulQ (a m:List (List Rat)) (n:Nat):List (List Rat):=a.map fun r=>mulRow r m n
def trQ (m:List (List Rat)):Nat→Rat
 | 0=>0
 | i+1=>trQ m i+(m.getD i []).getD i 0
def addD (m:List (List Rat)) (c:Rat) (i:Nat):List (List Rat):=(List.range m.length).map fun r=>if r<i then (m.getD r []).set r ((m.getD r []).getD r 0+c) else m.getD r []
def idQ (n:Nat):List (List Rat):=(List.range n).map fun i:Nat=>unitL n i
def cofOf (p:List (List Rat)) (n k:Nat):Rat:=trQ p n*Rat.divInt (-1) (k:Int)
def flM (a:List (List Rat)) (n:Nat):Nat→List (List Rat)
 | 0=>idQ n
 | k+1=>addD (mulQ a (flM a n k) n) (cofOf (mulQ a (flM a n k) n) n (k+1)) n
def cofQ (a:List (List Rat)) (n k:Nat):Rat:=cofOf (mulQ a (flM a n k) n) n (k+1)
def belowQ (a:List (List Rat)) (n k:Nat):List Rat:=1::(List.range k).map (cofQ a n)
def mvQ (m:List (List Rat)) (b:List Rat):List Rat:=m.map fun r=>dotQ r b
def aboveQ (S:SysQ) (n k:Nat):List Rat:=0::(List.range k).map fun i=>dotQ S.c (mvQ (flM S.a n i) S.b)
theorem colQ_len (m:List (List Rat)) (j:Nat):(colQ m j).length=m.length:=by simp [colQ]
theorem mulRow_len (r:List Rat) (m:List (List Rat)) (n:Nat):(mulRow r m n).length=n:=by simp [mulRow]
theorem mulQ_len (a m:List (List Rat)) (n:Nat):(mulQ a m n).length=a.length:=by simp [mulQ]
theorem addD_len (m:List (List Rat)) (c:Rat) (i:Nat):(addD m c i).length=m.length:=by simp [addD]
theorem mvQ_len (m:List (List Rat)) (b:List Rat):(mvQ m b).length=m.length:=by simp [mvQ]
theorem belowQ_len (a:List (List Rat)) (n k:Nat):(belowQ a n k).length=k+1:=by simp [belowQ]
theorem aboveQ_len (S:SysQ) (n k:Nat):(aboveQ S n k).length=k+1:=by simp [aboveQ]
theorem belowQ_succ (a:List (List Rat)) (n k:Nat):belowQ a n (k+1)=belowQ a n k++[cofQ a n k]:=by simp [belowQ,List.range_succ]
theorem aboveQ_succ (S:SysQ) (n k:Nat):aboveQ S n (k+1)=aboveQ S n k++[dotQ S.c (mvQ (flM S.a n k) S.b)]:=by simp [aboveQ,List.range_succ]
structure Sq (n:Nat) (m:List (List Rat)):Prop where
 l:m.length=n
 r : ∀ r∈m,r.length=n
theorem Sq.at {n:Nat} {m:List (List Rat)} (h:Sq n m) {i:Nat} {r:List Rat} (hr:m[i]? = some r):r.length=n:=h.r r (List.mem_of_getElem? hr)
theorem Sq.mul {n:Nat} {a:List (List Rat)} (h:a.length=n) (m:List (List Rat)):Sq n (mulQ a m n):=by
 refine ⟨by rw[mulQ_len,h],fun r hr => ?_⟩
 obtain ⟨x,_,rfl⟩:=List.mem_map.1 hr
 exact mulRow_len _ _ _
theorem addD_at {m:List (List Rat)} {c:Rat} {i r:Nat} {row:List Rat} (h:m[r]? = some row):(addD m c i)[r]? = some (if r<i then row.set r (row.getD r 0+c) else row):=by
 have h1:=(List.getElem?_eq_some_iff.1 h).1
 have e:m.getD r []=row:=by rw[List.getD_eq_getElem?_getD,h];rfl
 simp only[addD,List.getElem?_map,List.getElem?_range h1,Option.map_some,e]
theorem Sq.addD {n:Nat} {m:List (List Rat)} (h:Sq n m) (c:Rat) (i:Nat):Sq n (addD m c i):=by
 refine ⟨by rw[addD_len,h.l],fun r hr => ?_⟩
 obtain ⟨j,hj⟩:=List.getElem?_of_mem hr
 have h1:=(List.getElem?_eq_some_iff.1 hj).1
 rw[addD_len]at h1
 obtain ⟨row,hrow⟩ : ∃ row,m[j]? = some row:=⟨_,List.getElem?_eq_getElem h1⟩
 rw[addD_at hrow]at hj
 obtain rfl:=Option.some.inj hj
 have:=h.at hrow
 split
 ·rw[List.length_set];exact this
 ·exact this
theorem addD_zero (m:List (List Rat)) (c:Rat):addD m c 0=m:=by
 refine List.ext_getElem? fun r => ?_
 cases e:m[r]? with
 | none=>rw[List.getElem?_eq_none (by rw[addD_len];exact List.getElem?_eq_none_iff.1 e)]
 | some row=>rw[addD_at e,if_neg (by omega)]
theorem addD_succ {m:List (List Rat)} {c:Rat} {i:Nat} {row:List Rat} (h:m[i]? = some row):addD m c (i+1)=(addD m c i).set i (row.set i (row.getD i 0+c)):=by
 refine List.ext_getElem? fun r => ?_
 rw[List.getElem?_set]
 cases e:m[r]? with
 | none =>
  have h1:=List.getElem?_eq_none_iff.1 e
  have h2:=(List.getElem?_eq_some_iff.1 h).1
  rw[List.getElem?_eq_none (by rw[addD_len];exact h1),if_neg (by omega),List.getElem?_eq_none (by rw[addD_len];exact h1)]
 | some rw' =>
  rw[addD_at e,addD_at e]
  by_cases hi:i=r
  ·subst hi
   obtain rfl:=Option.some.inj (h.symm.trans e)
   have h2:=(List.getElem?_eq_some_iff.1 h).1
   rw[if_pos (by omega),if_pos rfl,if_pos (by rw[addD_len];exact h2)]
  ·rw[if_neg hi]
   by_cases h3:r<i
   ·rw[if_pos (by omega),if_pos h3]
   ·rw[if_neg (by omega),if_neg h3]
theorem addD_next {m:List (List Rat)} {c:Rat} {i:Nat} {row:List Rat} (h:m[i]? = some row):(addD m c i)[i]? = some row:=by rw[addD_at h,if_neg (by omega)]
theorem Sq.id (n:Nat):Sq n (idQ n):=by
 refine ⟨by simp [idQ],fun r hr => ?_⟩
 obtain ⟨i,_,rfl⟩:=List.mem_map.1 hr
 exact unitL_len _ _
theorem Sq.fl {n:Nat} {a:List (List Rat)} (h:a.length=n) : ∀ k,Sq n (flM a n k)
 | 0=>Sq.id n
 | k+1=>(Sq.mul h _).addD _ _
def Ms (k:Nat) (m:List (List Rat)):Prop := ∀ r∈m,Bs k r
theorem Ms.at {k:Nat} {m:List (List Rat)} (h:Ms k m) {i:Nat} {r:List Rat} (hr:m[i]? = some r):Bs k r:=h r (List.mem_of_getElem? hr)
theorem Ms.getD {k:Nat} {m:List (List Rat)} (h:Ms k m) (i j:Nat):Bt k ((m.getD i []).getD j 0):=by
 rw[List.getD_eq_getElem?_getD,List.getD_eq_getElem?_getD]
 cases e:m[i]? with
 | none=>exact Bt.zero k
 | some r =>
  simp only[Option.getD_some]
  cases e2:r[j]? with
  | none=>exact Bt.zero k
  | some x=>exact (h.at e).at e2
theorem Ms.le {k j:Nat} {m:List (List Rat)} (h:Ms k m) (hj:k≤j):Ms j m:=fun r hr=>(h r hr).le hj
theorem Ms.col {k:Nat} {m:List (List Rat)} (h:Ms k m) (j:Nat):Bs k (colQ m j):=by
 intro x hx
 obtain ⟨r,hr,rfl⟩:=List.mem_map.1 hx
 rw[List.getD_eq_getElem?_getD]
 cases e:r[j]? with
 | none=>exact Bt.zero k
 | some x=>exact (h r hr).at e
theorem Ms.mul {n k s:Nat} {a m:List (List Rat)} (ha:Ms k a) (hs:Sq n a) (hm:Ms s m):Ms (n*(k+s+1)) (mulQ a m n):=by
 intro r hr x hx
 obtain ⟨r,h1,rfl⟩:=List.mem_map.1 hr
 obtain ⟨j,_,rfl⟩:=List.mem_map.1 hx
 have:=(ha r h1).dot (hm.col j)
 rw[hs.r r h1]at this
 exact this
theorem Ms.tr {k:Nat} {m:List (List Rat)} (h:Ms k m) : ∀ i,Bt (i*(k+1)) (trQ m i)
 | 0=>Bt.zero _
 | i+1=>by
  refine ((Ms.tr h i).add (h.getD i i)).le ?_
  rw[Nat.succ_mul];omega
theorem Ms.addD {k j:Nat} {m:List (List Rat)} (h:Ms k m) {c:Rat} (hc:Bt j c) (i:Nat):Ms (k+j+1) (addD m c i):=by
 intro r hr
 obtain ⟨q,hq⟩:=List.getElem?_of_mem hr
 have h1:=(List.getElem?_eq_some_iff.1 hq).1
 rw[addD_len]at h1
 obtain ⟨row,hrow⟩ : ∃ row,m[q]? = some row:=⟨_,List.getElem?_eq_getElem h1⟩
 rw[addD_at hrow]at hq
 obtain rfl:=Option.some.inj hq
 have hb:=h.at hrow
 split
 ·intro x hx
  rcases List.mem_or_eq_of_mem_set hx with hx|rfl
  ·exact (hb x hx).le (by omega)
  ·refine Bt.add ?_ hc
   rw[List.getD_eq_getElem?_getD]
   cases e:row[q]? with
   | none=>exact Bt.zero k
   | some x=>exact hb.at e
 ·exact hb.le (by omega)
theorem Ms.id (n k:Nat):Ms k (idQ n):=by
 intro r hr x hx
 obtain ⟨i,_,rfl⟩:=List.mem_map.1 hr
 simp only[unitL,List.mem_map]at hx
 obtain ⟨a,_,rfl⟩:=hx
 split
 ·exact Bt.one k
 ·exact Bt.zero k
theorem bt_inv {k:Nat} (hk:k≤7):Bt 3 (Rat.divInt (-1) (k:Int)):=by
 rw[Rat.divInt_ofNat]
 refine Bt.mk ?_ ?_
 ·decide
 ·show k≤8;omega
def flK:Nat→Nat
 | 0=>0
 | k+1=>20*flK k+250
theorem Ms.fl {n:Nat} {a:List (List Rat)} (hs:Sq n a) (ha:Ms 9 a) (hn:n≤4) : ∀ k,k≤4→Ms (flK k) (flM a n k)∧Ms (4*(flK k+10)) (mulQ a (flM a n k) n)∧Bt (16*(flK k+10)+10) (cofQ a n k):=by
 have key : ∀ k,k≤4→Ms (flK k) (flM a n k)→Ms (4*(flK k+10)) (mulQ a (flM a n k) n)∧Bt (16*(flK k+10)+10) (cofQ a n k):=fun k hk h=>by
  have h1:Ms (4*(flK k+10)) (mulQ a (flM a n k) n):=(Ms.mul ha hs h).le (Nat.mul_le_mul hn (by omega))
  refine ⟨h1,?_⟩
  refine ((h1.tr n).mul (bt_inv (k:=k+1) (by omega))).le ?_
  have:=Nat.mul_le_mul_right (4*(flK k+10)+1) hn
  omega
 intro k
 induction k with
 | zero=>exact fun hk=>⟨Ms.id n _,key 0 hk (Ms.id n _)⟩
 | succ k ih =>
  intro hk
  obtain ⟨h1,h2,h3⟩:=ih (by omega)
  have h4:Ms (flK (k+1)) (flM a n (k+1)):=(h2.addD h3 n).le (by show _≤20*flK k+250;omega)
  exact ⟨h4,key (k+1) hk h4⟩
theorem flK_le : ∀ k,k≤4→flK k≤3000000:=by decide
end Go.Eng

namespace Go.Eng
variable {L:Lib}
def mdelL:List Nat→Mem→Mem
 | [],M=>M
 | j::r,M=>mdelL r (mdel j M)
theorem AKM.fgt1 {kk:List It} {tm:Tm} {M:Mem} {Q:Tm→Mem→Prop} (j:Nat) (h:AKM L kk tm (mdel j M) Q):AKM L kk tm M Q:=by
 intro σ st hr
 exact h σ st ⟨hr.tm,⟨fun k s c e=>hr.sat.site k s c (mget_mdel e).2,fun k t c e=>hr.sat.blk k t c (mref_mdel e).2,fun k t c e=>hr.sat.old k t c (mref_mdel e).2,fun k t k' t' c c' e e'=>hr.sat.inj k t k' t' c c' (mref_mdel e).2 (mref_mdel e').2⟩⟩
theorem AKM.fgt {kk:List It} {tm:Tm} {Q:Tm→Mem→Prop} : ∀ (ks:List Nat) {M:Mem},AKM L kk tm (mdelL ks M) Q→AKM L kk tm M Q
 | [],_,h=>h
 | j::r,_,h=>AKM.fgt1 j (AKM.fgt r h)
end Go.Eng

namespace Go.Eng
open F
attribute [local irreducible] AKM CmpP Req OpP UnP ConvP RdP LdR StR MkR LenP AppR AppN CpyR RowP SnR Bds SlS CallP CalP FinP pw LdM GetM SetM PutM MkM AppM SnM FlP CallR
set_option maxHeartbeats 16000000
variable {L:Lib}
def tfA (S:SysQ) (n:Nat):List Rat:=trimQ (belowQ S.a n n)
def tfB (S:SysQ) (n:Nat):List Rat:=trimQ (addP (aboveQ S n n) (trimQ ((belowQ S.a n n).map (· * S.d))))
def idP (n i:Nat):List (List Rat):=(List.range n).map fun r:Nat=>if r<i then unitL n r else List.replicate n 0
theorem idP_len (n i:Nat):(idP n i).length=n:=by simp [idP]
theorem idP_zero (n:Nat):idP n 0=List.replicate n (List.replicate n 0):=by
 refine List.ext_getElem? fun r => ?_
 simp only[idP,List.getElem?_map,List.getElem?_replicate]
 by_cases h:r<n
 ·rw[List.getElem?_range h,if_pos h];simp
 ·rw[List.getElem?_eq_none (by simp;omega),if_neg h];rfl
theorem idP_full (n:Nat):idP n n=idQ n:=by
 refine List.map_congr_left fun r hr => ?_
 rw[if_pos (List.mem_range.1 hr)]
theorem idP_at {n i:Nat} (h:i<n):(idP n i)[i]? = some (List.replicate n 0):=by
 simp only[idP,List.getElem?_map,List.getElem?_range h,Option.map_some,Nat.lt_irrefl,if_false]
theorem idP_set {n i:Nat} (h:i<n):(idP n i).set i ((List.replicate n 0).set i 1)=idP n (i+1):=by
 refine List.ext_getElem? fun r => ?_
 rw[List.getElem?_set,idP_len,unit_set]
 simp only[idP,List.getElem?_map]
 by_cases hr:r<n
 ·rw[List.getElem?_range hr]
  by_cases e:i=r
  ·subst e;simp [h]
  ·simp only[e,if_false,Option.map_some]
   by_cases h3:r<i
   ·rw[if_pos h3,if_pos (by omega)]
   ·rw[if_neg h3,if_neg (by omega)]
 ·rw[List.getElem?_eq_none (by simp;omega)]
  simp;omega
def cf (l:List Rat) (prev:List (Option Rat)) (i:Nat):List (Option Rat):=(l.take i).map some++prev.drop i
theorem cf_len {l:List Rat} {prev:List (Option Rat)} {i n:Nat} (hl:l.length=n) (hp:prev.length=n) (hi:i≤n):(cf l prev i).length=n:=by
 simp [cf];omega
theorem cf_zero (l:List Rat) (prev:List (Option Rat)):cf l prev 0=prev:=by simp [cf]
theorem cf_full {l:List Rat} {prev:List (Option Rat)} {n:Nat} (hl:l.length=n) (hp:prev.length=n):cf l prev n=l.map some:=by
 rw[cf,List.take_of_length_le (by omega),List.drop_of_length_le (by omega),List.append_nil]
theorem cf_set {l:List Rat} {prev:List (Option Rat)} {i n:Nat} {x:Rat} (hp:prev.length=n) (hx:l[i]? = some x) (hi:i<n):(cf l prev i).set i (some x)=cf l prev (i+1):=by
 have hli:=(List.getElem?_eq_some_iff.1 hx).1
 have htl:((l.take i).map some).length=i:=by rw[List.length_map,List.length_take];omega
 obtain ⟨y,hy⟩ : ∃ y,prev[i]? = some y:=⟨_,List.getElem?_eq_getElem (by omega)⟩
 obtain ⟨hi2,he2⟩:=List.getElem?_eq_some_iff.1 hy
 rw[cf,List.set_append_right _ _ (by omega),htl,Nat.sub_self,List.drop_eq_getElem_cons hi2,List.set_cons_zero,cf,take_snoc' hx,List.map_append]
 simp
theorem map_some_eO (l:List Rat):(l.map some).map eO=l.map eQ:=by simp [Function.comp_def]
def ot (P:List (List Rat)) (n j i:Nat):List (List (Option Rat)):=(List.range P.length).map fun r=>fillO ((P.getD r []).take (if r<i then j+1 else j)) n
theorem ot_len (P:List (List Rat)) (n j i:Nat):(ot P n j i).length=P.length:=by simp [ot]
theorem getD_row {P:List (List Rat)} {i:Nat} {row:List Rat} (h:P[i]? = some row):P.getD i []=row:=by rw[List.getD_eq_getElem?_getD,h];rfl
theorem ot_at {P:List (List Rat)} {n j i r:Nat} {row:List Rat} (h:P[r]? = some row):(ot P n j i)[r]? = some (fillO (row.take (if r<i then j+1 else j)) n):=by
 have h1:=(List.getElem?_eq_some_iff.1 h).1
 simp only[ot,List.getElem?_map,List.getElem?_range h1,Option.map_some,getD_row h]
theorem ot_set {P:List (List Rat)} {n j i:Nat} {row:List Rat} (h:P[i]? = some row):(ot P n j i).set i (fillO (row.take (j+1)) n)=ot P n j (i+1):=by
 refine List.ext_getElem? fun r => ?_
 rw[List.getElem?_set,ot_len]
 cases e:P[r]? with
 | none =>
  have h1:=List.getElem?_eq_none_iff.1 e
  have h2:=(List.getElem?_eq_some_iff.1 h).1
  rw[List.getElem?_eq_none (by rw[ot_len];exact h1),if_neg (by omega),List.getElem?_eq_none (by rw[ot_len];exact h1)]
 | some rw' =>
  rw[ot_at e,ot_at e]
  by_cases hi:i=r
  ·subst hi
   obtain rfl:=Option.some.inj (h.symm.trans e)
   have h2:=(List.getElem?_eq_some_iff.1 h).1
   rw[if_pos rfl,if_pos h2,if_pos (by omega)]
  ·rw[if_neg hi]
   by_cases h3:r<i
   ·rw[if_pos h3,if_pos (by omega)]
   ·rw[if_neg h3,if_neg (by omega)]
theorem ot_next (P:List (List Rat)) (n j:Nat):ot P n j P.length=ot P n (j+1) 0:=by
 refine List.map_congr_left fun r hr => ?_
 rw[if_pos (List.mem_range.1 hr),if_neg (by omega)]
theorem ot_zero (P:List (List Rat)) (n:Nat):ot P n 0 0=List.replicate P.length (fillO [] n):=by
 refine List.ext_getElem? fun r => ?_
 simp only[ot,List.getElem?_map,List.getElem?_replicate]
 by_cases h:r<P.length
 ·rw[List.getElem?_range h,if_pos h];simp
 ·rw[List.getElem?_eq_none (by simp;omega),if_neg h];rfl
theorem ot_full {P:List (List Rat)} {n:Nat} (h : ∀ r∈P,r.length=n):mxR 3 eO (ot P n n 0)=mxR 3 eQ P:=by
 refine List.ext_getElem? fun r => ?_
 simp only[mxR,List.getElem?_map]
 cases e:P[r]? with
 | none=>rw[List.getElem?_eq_none (by rw[ot_len];exact List.getElem?_eq_none_iff.1 e)];rfl
 | some row =>
  have hl:=h row (List.mem_of_getElem? e)
  rw[ot_at e,if_neg (by omega),List.take_of_length_le (by omega)]
  simp only[Option.map_some,fillO_full hl]
theorem ev_Transfer (N:TrGLib L) (S:SysQ) (n:Nat) (h:S.Ok n 9) (hn:n≤4):Ev L 189 [.agg (eS S)] (.tup [.agg [.sl false ((tfB S n).map eQ),.sl false ((tfA S n).map eQ)],.int .i64 0]):=by
 have hSd:=ev_Sound N.toSysGLib S n 9 h (by omega)
 have hO:=ev_rational_Of N.toRatGLib 0 (by omega)
 have hI:=ev_rational_Of N.toRatGLib 1 (by omega)
 have hla:=h.la
 subst hla
 refine Ev.x N.network_Transfer rfl rfl ?_
 (repeat' (first|(refine CmpP.go (fun hc => ?_) (fun hc => ?_)<;>first|(exfalso;omega)|(conv=>whnf))|(refine LenP.go ?_;conv=>whnf)|(refine AKM.x ?_;conv=>whnf)|(refine CallP.go (hSd) ?_;conv=>whnf)|(refine CallP.go (hO) ?_;conv=>whnf)|(refine CallP.go (hI) ?_;conv=>whnf)))
 refine CalP.walkC 1000 N.network_zero rfl rfl ?_
 (repeat' (refine AKM.x ?_;conv=>whnf))
 unfold MkM
 refine ⟨⟨by omega,by omega,by simp only[roomMax];omega,by omega⟩,?_⟩
 rw[Int.toNat_natCast]
 (conv=>whnf)
 have hZ:=ev_zerosR N.toSysGLib S.a.length (by omega)
 refine CallR.go (enc:=eQ) S.a.length hZ (by simp) ?_
 (conv=>whnf)
 refine CallR.go (enc:=eQ) S.a.length hZ (by simp) ?_
 (conv=>whnf)
 (repeat' (refine CallP.go (hO) ?_;conv=>whnf))
 generalize hm:S.a.length=m at *
 refine AKM.loop1 (fun t=>m-t) (fun (t:Nat)=>t≤m) (fun t=>[(16,.int .i64 t)]) (fun t=>[(145006,145006,.mx (List.replicate t (some (3,(List.replicate m (0:Rat)).map eQ))++List.replicate (m-t) none))]) [] [] 0 (by (conv=>whnf);exact ⟨rfl,rfl,rfl⟩) (by omega) ?_
 intro t p4 th
 by_cases ht:t<m
 ·(repeat' (first|(refine CmpP.go (fun hc => ?_) (fun hc => ?_)<;>first|(exfalso;omega)|(conv=>whnf))|(refine AKM.x ?_;conv=>whnf)))
  refine CallR.go (enc:=eQ) m hZ (by simp) ?_
  (conv=>whnf)
  (repeat' (first|(refine Req.go ?_ ?_;omega;conv=>whnf)|fail))
  unfold Req SetM
  refine ⟨by simp,by simp;omega,?_⟩
  (conv=>whnf)
  rw[show 0+((t:Int)).toNat=t by omega,fillM_set _ _ p4 ht]
  (repeat' (refine OpP.add ?_ ?_;omega;conv=>whnf))
  exact AKM.back [] (by (conv=>whnf);exact ⟨rfl,rfl,rfl⟩) (th (t+1) (by omega) (by omega))
 obtain rfl:t=m:=by omega
 clear th
 rw[show List.replicate t (some (3,List.map eQ (List.replicate t 0)))++List.replicate (t-t) none=mxR 3 eQ (idP t 0) by rw[idP_zero];simp [mxR]]
 (repeat' (first|(refine CmpP.go (fun hc => ?_) (fun hc => ?_)<;>first|(exfalso;omega)|(conv=>whnf))|(refine AKM.x ?_;conv=>whnf)))
 refine ⟨rfl,?_⟩
 (conv=>whnf)
 skip
 refine AKM.loop1 (fun i=>t-i) (fun (i:Nat)=>i≤t) (fun i=>[(34,.int .i64 i)]) (fun i=>[(145006,145006,.mx (mxR 3 eQ (idP t i)))]) [] [] 0 (by (conv=>whnf);exact ⟨rfl,rfl,rfl⟩) (by omega) ?_
 intro i p1 ih
 by_cases hi:i<t
 ·have hat:=idP_at hi
  have hst:=idP_set hi
  have hil:=idP_len t i
  generalize idP t i=I0 at *
  (repeat' (first|(refine CmpP.go (fun hc => ?_) (fun hc => ?_)<;>first|(exfalso;omega)|(conv=>whnf))|(refine Req.go ?_ ?_;omega;conv=>whnf)|(refine LdM.nat ?_ (fun r hr => ?_);omega;conv=>whnf)|(refine AKM.x ?_;conv=>whnf)|(refine CallP.go (hI) ?_;conv=>whnf)))
  cases hat.symm.trans hr
  refine Req.go (by rw[List.length_map,List.length_replicate];omega) ?_
  (conv=>whnf)
  (repeat' (refine GetM.ati (by assumption) ?_;conv=>whnf))
  refine StR.nat (enc:=eQ) 1 rfl (fun _=>rfl) (by rw[List.length_replicate];omega) ?_
  (conv=>whnf)
  refine PutM.nat (by rw[List.length_set]) ?_
  rw[hst]
  (conv=>whnf)
  (repeat' (refine OpP.add ?_ ?_;omega;conv=>whnf))
  exact AKM.back [] (by (conv=>whnf);exact ⟨rfl,rfl,rfl⟩) (ih (i+1) (by omega) (by omega))
 obtain rfl:i=t:=by omega
 clear ih
 rw[idP_full]
 rw[show ([[AV.bool (decide (((1:Int):Rat).num<0)),AV.sl false ((dg ((1:Int):Rat).num.natAbs).map e32),AV.sl false ((dg ((1:Int):Rat).den).map e32)]]:List (List AV))=(belowQ S.a i 0).map eQ from rfl,
  show ([[AV.bool (decide (((0:Int):Rat).num<0)),AV.sl false ((dg ((0:Int):Rat).num.natAbs).map e32),AV.sl false ((dg ((0:Int):Rat).den).map e32)]]:List (List AV))=(aboveQ S i 0).map eQ from rfl]
 (repeat' (first|(refine CmpP.go (fun hc => ?_) (fun hc => ?_)<;>first|(exfalso;omega)|(conv=>whnf))|(refine AKM.x ?_;conv=>whnf)))
 have hsq:Sq i S.a:=⟨hm,h.lr⟩
 refine AKM.fgt [145002,145003] ?_
 refine AKM.loop2 (fun k _=>i-k) (fun (k _:Nat)=>k≤i) (fun k _=>[(9,.int .i64 ((k+1:Nat):Int)),(5,.row 27 0 3 0 (k+1)),(6,.row 29 0 3 0 (k+1)),(7,.row 145006 0 1 0 i)]) (fun k t=>[(27,27,.rw 3 ((belowQ S.a i k).map eQ)),(29,29,.rw 3 ((aboveQ S i k).map eQ)),(145006,t,.mx (mxR 3 eQ (flM S.a i k)))]) [] [] 0 145006 (by (conv=>whnf);exact ⟨rfl,rfl,rfl⟩) (by omega) ?_
 intro k t p2 kh
 by_cases hk:k<i
 ·obtain ⟨b1,b2,b3⟩:=Ms.fl hsq h.ba hn k (by omega)
  have hKk:=flK_le k (by omega)
  have hMs:=Sq.fl (a:=S.a) hm k
  have hMl:=hMs.l
  have hfl:flM S.a i (k+1)=addD (mulQ S.a (flM S.a i k) i) (cofQ S.a i k) i:=rfl
  have hcf:cofQ S.a i k=trQ (mulQ S.a (flM S.a i k) i) i*Rat.divInt (-1) ((k+1:Nat):Int):=rfl
  have hab:=aboveQ_succ S i k
  have hbe:=belowQ_succ S.a i k
  have hal:=aboveQ_len S i k
  have hbl:=belowQ_len S.a i k
  have hPs:=Sq.mul hm (flM S.a i k)
  generalize flM S.a i k=Mk at *
  generalize cofQ S.a i k=ck at *
  generalize aboveQ S i k=ab at *
  generalize belowQ S.a i k=be at *
  generalize flK k=fk at *
  (repeat' (first|(refine CmpP.go (fun hc => ?_) (fun hc => ?_)<;>first|(exfalso;omega)|(conv=>whnf))|(refine AKM.x ?_;conv=>whnf)))
  refine MkR.go (enc:=eO) none i rfl rfl (by omega) ?_
  (conv=>whnf)
  skip
  have himl:=mvQ_len Mk S.b
  have himg : ∀ (j:Nat) row,Mk[j]? = some row→(mvQ Mk S.b)[j]? = some (dotQ row S.b):=fun j row hr=>by rw[mvQ,List.getElem?_map,hr];rfl
  have himb:Bs (4*(fk+10)) (mvQ Mk S.b):=by
   intro x hx
   obtain ⟨r,hr,rfl⟩:=List.mem_map.1 hx
   refine ((b1 r hr).dot h.bb).le ?_
   rw[hMs.r r hr]
   exact Nat.mul_le_mul hn (by omega)
  refine AKM.loop1 (fun j=>i-j) (fun (j:Nat)=>j≤i) (fun j=>[(53,.int .i64 j)]) (fun j=>[(51,51,.rw 3 ((fillO ((mvQ Mk S.b).take j) i).map eO))]) [] [] 0 (by first|exact (by (conv=>whnf);exact ⟨rfl,rfl,rfl⟩)|(rw[List.take_zero,←fillO_nil];exact (by (conv=>whnf);exact ⟨rfl,rfl,rfl⟩))) (by omega) ?_
  intro j q1 jh
  by_cases hj:j<i
  ·obtain ⟨row,hrow⟩ : ∃ row,Mk[j]? = some row:=⟨_,List.getElem?_eq_getElem (by omega)⟩
   have hrl:=hMs.at hrow
   have hy:=himg j row hrow
   have hP:=fun q q'=>ev_product N.toSysGLib row S.b q q' fk 9 (by rw[hrl,h.lb]) (b1.at hrow) h.bb (by rw[hrl];have:=Nat.mul_le_mul_right (fk+9+1) hn;omega) (by omega)
   have hlf:=fillO_len (l:=(mvQ Mk S.b).take j) (m:=i) (by rw[List.length_take];omega)
   have hst:=fillO_set (l:=(mvQ Mk S.b).take j) (m:=i) (x:=dotQ row S.b) (by rw[List.length_take];omega)
   rw[List.length_take,Nat.min_eq_left (by omega),←take_snoc' hy]at hst
   (repeat' (first|(refine CmpP.go (fun hc => ?_) (fun hc => ?_)<;>first|(exfalso;omega)|(conv=>whnf))|(refine Req.go ?_ ?_;omega;conv=>whnf)|(refine SnR.all (fun _=>rfl) rfl ?_ ?_;(first|rfl|simp);conv=>whnf)|(refine LdM.nat ?_ (fun r hr => ?_);omega;conv=>whnf)|(refine GetM.ati (by assumption) ?_;conv=>whnf)|(refine AKM.x ?_;conv=>whnf)))
   cases hrow.symm.trans hr
   (repeat' (first|(refine Req.go ?_ ?_;omega;conv=>whnf)|(refine CallP.go (hP _ _) ?_;conv=>whnf)))
   refine StR.nat (enc:=eO) (some (dotQ row S.b)) rfl (fun e=>by cases e<;>rfl) (by omega) ?_
   (conv=>whnf)
   (repeat' (refine OpP.add ?_ ?_;omega;conv=>whnf))
   rw[hst]
   exact AKM.back [] (by (conv=>whnf);exact ⟨rfl,rfl,rfl⟩) (jh (j+1) (by omega) (by omega))
  obtain rfl:j=i:=by omega
  clear jh
  rw[List.take_of_length_le (by omega),fillO_full (by omega)]
  have hP:=fun q q'=>ev_product N.toSysGLib S.c (mvQ Mk S.b) q q' 9 (4*(fk+10)) (by rw[h.lc];omega) h.bc himb (by rw[h.lc];have:=Nat.mul_le_mul_right (9+4*(fk+10)+1) hn;omega) (by rw[h.lc];omega)
  generalize mvQ Mk S.b=img at *
  generalize dotQ S.c img=av at *
  (repeat' (first|(refine CmpP.go (fun hc => ?_) (fun hc => ?_)<;>first|(exfalso;omega)|(conv=>whnf))|(refine AKM.x ?_;conv=>whnf)))
  refine SnR.all (enc:=eQ) (fun _=>rfl) rfl (by omega) ?_
  (conv=>whnf)
  (repeat' (first|(refine RowP.e1 ?_;conv=>whnf)|(refine CallP.go (hP _ _) ?_;conv=>whnf)))
  refine AppR.one (enc:=eQ) av rfl hal.symm rfl (by omega) (by omega) ?_
  rw[←hab,aboveQ_len]
  (conv=>whnf)
  skip
  refine CalP.walk 1000 N.network_times rfl rfl ?_
  (repeat' (first|(refine LenP.go ?_;conv=>whnf)|(refine AKM.x ?_;conv=>whnf)))
  unfold MkM
  refine ⟨⟨by omega,by omega,by simp only[roomMax];omega,by omega⟩,?_⟩
  rw[Int.toNat_natCast]
  (conv=>whnf)
  (repeat' (refine LenP.go ?_;conv=>whnf))
  rw[hm]
  refine MkR.go (enc:=eO) none j rfl rfl (by omega) ?_
  (conv=>whnf)
  (repeat' (refine LenP.go ?_;conv=>whnf))
  rw[hm]
  refine AKM.loop1 (fun u=>j-u) (fun (u:Nat)=>u≤j) (fun u=>[(19,.int .i64 u)]) (fun u=>[(188013,188013,.mx (List.replicate u (some (3,(fillO [] j).map eO))++List.replicate (j-u) none))]) [] [] 0 (by (conv=>whnf);exact ⟨rfl,rfl,rfl⟩) (by omega) ?_
  intro u r1 uh
  by_cases hu:u<j
  ·(repeat' (first|(refine CmpP.go (fun hc => ?_) (fun hc => ?_)<;>first|(exfalso;omega)|(conv=>whnf))|(refine LenP.go ?_;conv=>whnf)|(refine AKM.x ?_;conv=>whnf)))
   rw[hm]
   refine MkR.go (enc:=eO) none j rfl rfl (by omega) ?_
   (conv=>whnf)
   (repeat' (first|(refine Req.go ?_ ?_;omega;conv=>whnf)|fail))
   unfold Req SetM
   refine ⟨by simp,by simp;omega,?_⟩
   (conv=>whnf)
   rw[show 0+((u:Int)).toNat=u by omega,←fillO_nil,fillM_set _ _ r1 hu]
   (repeat' (refine OpP.add ?_ ?_;omega;conv=>whnf))
   exact AKM.back [] (by (conv=>whnf);exact ⟨rfl,rfl,rfl⟩) (uh (u+1) (by omega) (by omega))
  obtain rfl:u=j:=by omega
  clear uh
  have hPat : ∀ (e:Nat) row,S.a[e]? = some row→(mulQ S.a Mk u)[e]? = some (mulRow row Mk u):=fun e row hr=>by rw[mulQ,List.getElem?_map,hr];rfl
  have hPl:=hPs.l
  rw[show List.replicate u (some (3,List.map eO (fillO [] u)))++List.replicate (u-u) none=mxR 3 eO (ot (mulQ S.a Mk u) u 0 0) by rw[ot_zero,hPl];simp [mxR]]
  generalize hPg:mulQ S.a Mk u=P at *
  (repeat' (first|(refine CmpP.go (fun hc => ?_) (fun hc => ?_)<;>first|(exfalso;omega)|(conv=>whnf))|(refine LenP.go ?_;conv=>whnf)|(refine AKM.x ?_;conv=>whnf)))
  rw[hm]
  refine AKM.loop2 (fun c _=>u-c) (fun (c:Nat) (pv:List (Option Rat))=>c≤u∧pv.length=u) (fun c _=>[(31,.int .i64 c)]) (fun c pv=>[(188013,188013,.mx (mxR 3 eO (ot P u c 0))),(188016,188016,.rw 3 (pv.map eO))]) [] [] 0 (List.replicate u none) (by (conv=>whnf);exact ⟨rfl,rfl,rfl⟩) ⟨by omega,by simp⟩ ?_
  intro c pv ⟨r2,r3⟩ ch
  by_cases hc2:c<u
  ·have hcoll:=colQ_len Mk c
   (repeat' (first|(refine CmpP.go (fun hc => ?_) (fun hc => ?_)<;>first|(exfalso;omega)|(conv=>whnf))|(refine LenP.go ?_;conv=>whnf)|(refine AKM.x ?_;conv=>whnf)))
   rw[hm]
   refine AKM.loop1 (fun e=>u-e) (fun (e:Nat)=>e≤u) (fun e=>[(36,.int .i64 e)]) (fun e=>[(188016,188016,.rw 3 ((cf (colQ Mk c) pv e).map eO))]) [] [] 0 (by first|exact (by (conv=>whnf);exact ⟨rfl,rfl,rfl⟩)|(rw[cf_zero];exact (by (conv=>whnf);exact ⟨rfl,rfl,rfl⟩))) (by omega) ?_
   intro e r4 eh
   by_cases he2:e<u
   ·obtain ⟨row,hrow⟩ : ∃ row,Mk[e]? = some row:=⟨_,List.getElem?_eq_getElem (by omega)⟩
    have hrl:=hMs.at hrow
    obtain ⟨x,hx⟩ : ∃ x,row[c]? = some x:=⟨_,List.getElem?_eq_getElem (by omega)⟩
    have hcx:(colQ Mk c)[e]? = some x:=by rw[colQ,List.getElem?_map,hrow,Option.map_some,gD_of hx]
    have hcl:=cf_len (l:=colQ Mk c) (by omega) r3 r4
    have hst:=cf_set r3 hcx he2
    (repeat' (first|(refine CmpP.go (fun hc => ?_) (fun hc => ?_)<;>first|(exfalso;omega)|(conv=>whnf))|(refine Req.go ?_ ?_;omega;conv=>whnf)|(refine LdM.nat ?_ (fun r hr => ?_);omega;conv=>whnf)|(refine AKM.x ?_;conv=>whnf)))
    cases hrow.symm.trans hr
    refine Req.go (by rw[List.length_map];omega) ?_
    (conv=>whnf)
    (repeat' (first|(refine Req.go ?_ ?_;omega;conv=>whnf)|(refine LdR.nat ?_ (fun _=>rfl) (fun v hv => ?_);omega;conv=>whnf)|(refine GetM.ati (by assumption) ?_;conv=>whnf)))
    cases hx.symm.trans hv
    refine StR.nat (enc:=eO) (some x) rfl (fun e=>by cases e<;>rfl) (by omega) ?_
    (conv=>whnf)
    (repeat' (refine OpP.add ?_ ?_;omega;conv=>whnf))
    rw[hst]
    exact AKM.back [] (by (conv=>whnf);exact ⟨rfl,rfl,rfl⟩) (eh (e+1) (by omega) (by omega))
   obtain rfl:e=u:=by omega
   clear eh
   rw[cf_full (by omega) r3,map_some_eO]
   (repeat' (first|(refine CmpP.go (fun hc => ?_) (fun hc => ?_)<;>first|(exfalso;omega)|(conv=>whnf))|(refine LenP.go ?_;conv=>whnf)|(refine AKM.x ?_;conv=>whnf)))
   rw[hm]
   refine AKM.loop1 (fun f=>e-f) (fun (f:Nat)=>f≤e) (fun f=>[(52,.int .i64 f)]) (fun f=>[(188013,188013,.mx (mxR 3 eO (ot P e c f)))]) [] [] 0 (by (conv=>whnf);exact ⟨rfl,rfl,rfl⟩) (by omega) ?_
   intro f r5 fh
   by_cases hf2:f<e
   ·obtain ⟨row,hrow⟩ : ∃ row,S.a[f]? = some row:=⟨_,List.getElem?_eq_getElem (by omega)⟩
    have hrow':S.a[(f:Int).toNat]? = some row:=hrow
    have hrl:=hsq.at hrow
    have hPr:=hPat f row hrow
    have hDt:=fun q q'=>ev_product N.toSysGLib row (colQ Mk c) q q' 9 fk (by omega) (h.ba row (List.mem_of_getElem? hrow)) (b1.col c) (by rw[hrl];have:=Nat.mul_le_mul_right (9+fk+1) hn;omega) (by omega)
    have hoa:=ot_at (n:=e) (j:=c) (i:=f) hPr
    rw[if_neg (by omega)]at hoa
    have hos:=ot_set (n:=e) (j:=c) hPr
    have hol:=ot_len P e c f
    have hmc:(mulRow row Mk e)[c]? = some (dotQ row (colQ Mk c)):=by rw[mulRow,List.getElem?_map,List.getElem?_range hc2];rfl
    have hml:=mulRow_len row Mk e
    have hlf:=fillO_len (l:=(mulRow row Mk e).take c) (m:=e) (by rw[List.length_take];omega)
    have hst:=fillO_set (l:=(mulRow row Mk e).take c) (m:=e) (x:=dotQ row (colQ Mk c)) (by rw[List.length_take];omega)
    rw[List.length_take,Nat.min_eq_left (by omega),←take_snoc' hmc]at hst
    generalize ot P e c f=O at *
    (repeat' (first|(refine CmpP.go (fun hc => ?_) (fun hc => ?_)<;>first|(exfalso;omega)|(conv=>whnf))|(refine Req.go ?_ ?_;omega;conv=>whnf)|(refine RdP.at (by assumption) ?_ rfl ?_;omega;conv=>whnf)|(refine LdM.nat ?_ (fun r hr => ?_);omega;conv=>whnf)|(refine AKM.x ?_;conv=>whnf)))
    cases hoa.symm.trans hr
    refine SnR.all (enc:=eQ) (fun _=>rfl) rfl (by omega) ?_
    (conv=>whnf)
    (repeat' (refine CallP.go (hDt _ _) ?_;conv=>whnf))
    have hlf2:=fillO_len (l:=(mulRow row Mk e).take (c+1)) (m:=e) (by rw[List.length_take];omega)
    refine Req.go (by rw[List.length_map];omega) ?_
    (conv=>whnf)
    (repeat' (refine GetM.ati (by assumption) ?_;conv=>whnf))
    refine StR.nat (enc:=eO) (some (dotQ row (colQ Mk c))) rfl (fun e=>by cases e<;>rfl) (by omega) ?_
    (conv=>whnf)
    rw[hst]
    refine PutM.nat (by omega) ?_
    rw[hos]
    (conv=>whnf)
    (repeat' (refine OpP.add ?_ ?_;omega;conv=>whnf))
    exact AKM.back [] (by (conv=>whnf);exact ⟨rfl,rfl,rfl⟩) (fh (f+1) (by omega) (by omega))
   obtain rfl:f=e:=by omega
   clear fh
   have hnx:=ot_next P f c
   rw[hPl]at hnx
   rw[hnx,←map_some_eO (colQ Mk c)]
   (repeat' (first|(refine CmpP.go (fun hc => ?_) (fun hc => ?_)<;>first|(exfalso;omega)|(conv=>whnf))|(refine OpP.add ?_ ?_;omega;conv=>whnf)|(refine AKM.x ?_;conv=>whnf)))
   exact AKM.back [] (by (conv=>whnf);exact ⟨rfl,rfl,rfl⟩) (ch (c+1) ((colQ Mk c).map some) (by omega) ⟨by omega,by rw[List.length_map];omega⟩)
  obtain rfl:c=u:=by omega
  clear ch
  rw[ot_full hPs.r]
  (repeat' (first|(refine CmpP.go (fun hc => ?_) (fun hc => ?_)<;>first|(exfalso;omega)|(conv=>whnf))|(refine AKM.x ?_;conv=>whnf)))
  refine ⟨rfl,_,rfl,?_⟩
  (conv=>whnf)
  (repeat' (refine CallP.go (hO) ?_;conv=>whnf))
  have htr0:((0:Int):Rat)=trQ P 0:=rfl
  rw[htr0]
  refine AKM.loop1 (fun e=>c-e) (fun (e:Nat)=>e≤c) (fun e=>[(80,.int .i64 e)]) (fun e=>[(12,12,.bx (eQ (trQ P e)))]) [] [] 0 (by (conv=>whnf);exact ⟨rfl,rfl,rfl⟩) (by omega) ?_
  intro e r4 eh
  by_cases he2:e<c
  ·obtain ⟨row,hrow⟩ : ∃ row,P[e]? = some row:=⟨_,List.getElem?_eq_getElem (by omega)⟩
   have hrl:=hPs.at hrow
   obtain ⟨x,hx⟩ : ∃ x,row[e]? = some x:=⟨_,List.getElem?_eq_getElem (by omega)⟩
   have htx:trQ P (e+1)=trQ P e+x:=by rw[trQ,getD_row hrow,gD_of hx]
   have btr:=Ms.tr b2 e
   have hkb:e*(4*(fk+10)+1)≤4*(4*(fk+10)+1):=Nat.mul_le_mul_right _ (by omega)
   have hA:=ev_addQ N.toRatGLib btr ((b2.at hrow).at hx) (by omega) (by omega)
   rw[←htx]at hA
   (repeat' (first|(refine CmpP.go (fun hc => ?_) (fun hc => ?_)<;>first|(exfalso;omega)|(conv=>whnf))|(refine Req.go ?_ ?_;omega;conv=>whnf)|(refine LdM.nat ?_ (fun r hr => ?_);omega;conv=>whnf)|(refine AKM.x ?_;conv=>whnf)))
   cases hrow.symm.trans hr
   refine Req.go (by rw[List.length_map];omega) ?_
   (conv=>whnf)
   (repeat' (first|(refine LdR.nat ?_ (fun _=>rfl) (fun v hv => ?_);omega;conv=>whnf)|(refine GetM.ati (by assumption) ?_;conv=>whnf)))
   cases hx.symm.trans hv
   (repeat' (first|(refine OpP.add ?_ ?_;omega;conv=>whnf)|(refine CallP.go (hA) ?_;conv=>whnf)))
   exact AKM.back [] (by (conv=>whnf);exact ⟨rfl,rfl,rfl⟩) (eh (e+1) (by omega) (by omega))
  obtain rfl:e=c:=by omega
  clear eh
  have btr:=Ms.tr b2 e
  have hkb:e*(4*(fk+10)+1)≤4*(4*(fk+10)+1):=Nat.mul_le_mul_right _ (by omega)
  have hF:=ev_FracQ N.toRatHLib (-1) ((k+1:Nat):Int) (by omega) (by omega) (by omega)
  have hM:=ev_mulQ N.toRatGLib btr (bt_inv (k:=k+1) (by omega)) (by omega) (by omega)
  rw[←hcf]at hM
  (repeat' (first|(refine CmpP.go (fun hc => ?_) (fun hc => ?_)<;>first|(exfalso;omega)|(conv=>whnf))|(refine AKM.x ?_;conv=>whnf)|(refine CallP.go (hF) ?_;conv=>whnf)|(refine CallP.go (hM) ?_;conv=>whnf)))
  have hz0:=addD_zero P ck
  refine AKM.loop1 (fun f=>e-f) (fun (f:Nat)=>f≤e) (fun f=>[(98,.int .i64 f)]) (fun f=>[(188013,188013,.mx (mxR 3 eQ (addD P ck f)))]) [] [] 0 (by first|exact (by (conv=>whnf);exact ⟨rfl,rfl,rfl⟩)|(rw[hz0];exact (by (conv=>whnf);exact ⟨rfl,rfl,rfl⟩))) (by omega) ?_
  intro f r5 fh
  by_cases hf2:f<e
  ·obtain ⟨row,hrow⟩ : ∃ row,P[f]? = some row:=⟨_,List.getElem?_eq_getElem (by omega)⟩
   have hrl:=hPs.at hrow
   obtain ⟨x,hx⟩ : ∃ x,row[f]? = some x:=⟨_,List.getElem?_eq_getElem (by omega)⟩
   have hA:=ev_addQ N.toRatGLib ((b2.at hrow).at hx) b3 (by omega) (by omega)
   have hnx:=addD_next (c:=ck) hrow
   have hsu:=addD_succ (c:=ck) hrow
   rw[gD_of hx]at hsu
   have hdl:=addD_len P ck f
   generalize addD P ck f=D0 at *
   (repeat' (first|(refine CmpP.go (fun hc => ?_) (fun hc => ?_)<;>first|(exfalso;omega)|(conv=>whnf))|(refine Req.go ?_ ?_;omega;conv=>whnf)|(refine LdM.nat ?_ (fun r hr => ?_);omega;conv=>whnf)|(refine AKM.x ?_;conv=>whnf)))
   cases hnx.symm.trans hr
   cases hnx.symm.trans ‹D0[f]? = some r›
   refine Req.go (by rw[List.length_map];omega) ?_
   (conv=>whnf)
   (repeat' (first|(refine LdR.nat ?_ (fun _=>rfl) (fun v hv => ?_);omega;conv=>whnf)|(refine GetM.ati (by assumption) ?_;conv=>whnf)))
   cases hx.symm.trans hv
   (repeat' (refine CallP.go (hA) ?_;conv=>whnf))
   refine Req.go (by rw[List.length_map];omega) ?_
   (conv=>whnf)
   (repeat' (refine GetM.ati (by assumption) ?_;conv=>whnf))
   refine StR.nat (enc:=eQ) (x+ck) rfl (fun _=>rfl) (by omega) ?_
   (conv=>whnf)
   refine PutM.nat (by rw[List.length_set]) ?_
   rw[←hsu]
   (conv=>whnf)
   (repeat' (refine OpP.add ?_ ?_;omega;conv=>whnf))
   exact AKM.back [] (by (conv=>whnf);exact ⟨rfl,rfl,rfl⟩) (fh (f+1) (by omega) (by omega))
  obtain rfl:f=e:=by omega
  clear fh
  rw[←hfl]
  (repeat' (first|(refine CmpP.go (fun hc => ?_) (fun hc => ?_)<;>first|(exfalso;omega)|(conv=>whnf))|(refine RowP.e1 ?_;conv=>whnf)|(refine AKM.x ?_;conv=>whnf)))
  refine AppR.one (enc:=eQ) ck rfl hbl.symm rfl (by omega) (by omega) ?_
  rw[←hbe,belowQ_len]
  (conv=>whnf)
  (repeat' (refine OpP.add ?_ ?_;omega;conv=>whnf))
  exact AKM.back [(145006,188013),(27,120),(29,73)] (by (conv=>whnf);exact ⟨rfl,rfl,rfl⟩) (kh (k+1) 188013 (by omega) (by omega))
 obtain rfl:k=i:=by omega
 clear kh
 have hbeB:Bs 60000000 (belowQ S.a k k):=by
  intro x hx
  simp only[belowQ,List.mem_cons,List.mem_map,List.mem_range]at hx
  rcases hx with rfl|⟨j,hj,rfl⟩
  ·exact Bt.one _
  ·have hKj:=flK_le j (by omega)
   exact (Ms.fl hsq h.ba hn j (by omega)).2.2.le (by omega)
 have habB:Bs 60000000 (aboveQ S k k):=by
  intro x hx
  simp only[aboveQ,List.mem_cons,List.mem_map,List.mem_range]at hx
  rcases hx with rfl|⟨j,hj,rfl⟩
  ·exact Bt.zero _
  ·have hKj:=flK_le j (by omega)
   have himb:Bs (4*(flK j+10)) (mvQ (flM S.a k j) S.b):=by
    intro x hx
    obtain ⟨r,hr,rfl⟩:=List.mem_map.1 hx
    refine (((Ms.fl hsq h.ba hn j (by omega)).1 r hr).dot h.bb).le ?_
    rw[(Sq.fl hm j).r r hr]
    exact Nat.mul_le_mul hn (by omega)
   refine (h.bc.dot himb).le ?_
   rw[h.lc]
   have:=Nat.mul_le_mul_right (9+4*(flK j+10)+1) hn
   omega
 have hbl:=belowQ_len S.a k k
 have hal:=aboveQ_len S k k
 have hmB:Bs 60000009 ((belowQ S.a k k).map (· * S.d)):=by
  intro y hy
  obtain ⟨x,hx,rfl⟩:=List.mem_map.1 hy
  exact ((hbeB x hx).mul h.bd).le (by omega)
 have hml:((belowQ S.a k k).map (· * S.d)).length=k+1:=by rw[List.length_map];exact hbl
 have htl:=trimQ_len ((belowQ S.a k k).map (· * S.d))
 have hct:=cutN_le ((belowQ S.a k k).map (· * S.d)) ((belowQ S.a k k).map (· * S.d)).length
 have hSc:=fun q=>ev_pScale N q (belowQ S.a k k) S.d 60000000 9 hbeB h.bd (by omega) (by omega)
 have hAd:=fun q q'=>ev_pAdd N q q' (aboveQ S k k) (trimQ ((belowQ S.a k k).map (· * S.d))) 60000000 60000009 habB hmB.trim (by omega) (by omega) (by omega)
 have hTr:=fun q=>ev_pTrim N.toPolyGLib q (belowQ S.a k k) 60000000 hbeB (by omega) (by omega)
 have hfin:Clean (.tup [.agg [.sl false ((tfB S k).map eQ),.sl false ((tfA S k).map eQ)],.int .i64 0]):=by
  simp only[Clean,CleanL,true_and,and_true]
  exact ⟨cl_eQs _,cl_eQs _⟩
 unfold tfB tfA at *
 generalize trimQ (addP (aboveQ S k k) (trimQ ((belowQ S.a k k).map (· * S.d))))=rB at *
 generalize trimQ ((belowQ S.a k k).map (· * S.d))=sc at *
 generalize trimQ (belowQ S.a k k)=rA at *
 (repeat' (first|(refine CmpP.go (fun hc => ?_) (fun hc => ?_)<;>first|(exfalso;omega)|(conv=>whnf))|(refine AKM.x ?_;conv=>whnf)))
 refine SnR.all (enc:=eQ) (fun _=>rfl) rfl hbl.symm ?_
 (conv=>whnf)
 (repeat' (refine CallP.go (hSc _) ?_;conv=>whnf))
 refine SnR.all (enc:=eQ) (fun _=>rfl) rfl hal.symm ?_
 (conv=>whnf)
 (repeat' (refine CallP.go (hAd _ _) ?_;conv=>whnf))
 refine SnR.all (enc:=eQ) (fun _=>rfl) rfl hbl.symm ?_
 (conv=>whnf)
 (repeat' (refine CallP.go (hTr _) ?_;conv=>whnf))
 exact FinP.go rfl hfin
end Go.Eng

namespace Go.Eng
theorem LdM.st {R:List (Option (Nat × List (List AV)))} {i e z:Nat} {es:List (List AV)} {K:Option (Nat × List (List AV))→Prop} (he:e=i) (hi:i<R.length) (h:K (some (z,es))):LdM (R.set i (some (z,es))) e K:=by
 subst he
 exact ⟨_,by rw[List.getElem?_set,if_pos rfl,if_pos hi],h⟩
theorem GetM.st {R:List (Option (Nat × List (List AV)))} {i e z:Nat} {es:List (List AV)} {K:Nat→List (List AV)→Prop} (he:e=i) (hi:i<R.length) (h:K z es):GetM (R.set i (some (z,es))) e K:=by
 subst he
 exact ⟨z,es,by rw[List.getElem?_set,if_pos rfl,if_pos hi],h⟩
theorem PutM.st {R:List (Option (Nat × List (List AV)))} {i e z:Nat} {es es':List (List AV)} {K:List (Option (Nat × List (List AV)))→Prop} (he:e=i) (hl:es'.length=es.length) (h:K (R.set i (some (z,es')))):PutM (R.set i (some (z,es))) e z es es' K:=by
 subst he
 exact ⟨hl,by rw[List.set_set];exact h⟩
theorem SetM.fz {R:List (Option (Nat × List (List AV)))} {i e z:Nat} {es:List (List AV)} {K:List (Option (Nat × List (List AV)))→Prop} (he:e=i) (hi:i<R.length) (h:K (R.set i (some (z,es)))):SetM R e z es K:=by
 subst he
 exact ⟨hi,h⟩
end Go.Eng

namespace Go.Eng
open F
attribute [local irreducible] AKM CmpP Req OpP UnP ConvP RdP LdR StR MkR LenP AppR AppN CpyR RowP SnR Bds SlS CallP CalP FinP pw LdM GetM SetM PutM MkM AppM SnM FlP CallR
set_option maxHeartbeats 16000000
variable {L:Lib}
def mz (Q:List (List Rat)) (n i:Nat):List (Option (Nat × List (List AV))):=fz none (mxR 3 eQ (Q.take i)) n
theorem mz_len {Q:List (List Rat)} {n i:Nat} (hi:i≤n):(mz Q n i).length=n:=by
 refine fz_len ?_
 simp only[mxR,List.length_map,List.length_take];omega
theorem mz_zero (Q:List (List Rat)) (n:Nat):mz Q n 0=List.replicate n none:=by simp [mz,fz]
theorem mz_set {Q:List (List Rat)} {n i:Nat} {row:List Rat} (h:Q[i]? = some row) (hi:i<n):(mz Q n i).set i (some (3,row.map eQ))=mz Q n (i+1):=by
 have h1:=(List.getElem?_eq_some_iff.1 h).1
 have hl:(mxR 3 eQ (Q.take i)).length=i:=by simp only[mxR,List.length_map,List.length_take];omega
 have:=fz_set (z:=none) (l:=mxR 3 eQ (Q.take i)) (m:=n) (x:=some (3,row.map eQ)) (by omega)
 rw[hl]at this
 rw[mz,this,mz,take_snocA h]
 simp [mxR]
theorem mz_full {Q:List (List Rat)} {n:Nat} (h:Q.length=n):mz Q n n=mxR 3 eQ Q:=by
 rw[mz,List.take_of_length_le (by omega)]
 exact fz_full (by simp [mxR,h])
def cz (row:List Rat) (n j:Nat):List Rat:=fz 0 (row.take j) n
theorem cz_len {row:List Rat} {n j:Nat} (hj:j≤n):(cz row n j).length=n:=by
 refine fz_len ?_
 rw[List.length_take];omega
theorem cz_zero (row:List Rat) (n:Nat):cz row n 0=List.replicate n 0:=by simp [cz,fz]
theorem cz_set {row:List Rat} {n j:Nat} {x:Rat} (h:row[j]? = some x) (hj:j<n):(cz row n j).set j x=cz row n (j+1):=by
 have h1:=(List.getElem?_eq_some_iff.1 h).1
 have hl:(row.take j).length=j:=by rw[List.length_take];omega
 have:=fz_set (z:=(0:Rat)) (l:=row.take j) (m:=n) (x:=x) (by omega)
 rw[hl]at this
 rw[cz,this,cz,take_snocA h]
theorem cz_at {row:List Rat} {n j:Nat} (hr:j≤row.length) (hj:j<n):(cz row n j)[j]? = some 0:=by
 have hl:(row.take j).length=j:=by rw[List.length_take];omega
 have:=fz_at (z:=(0:Rat)) (l:=row.take j) (m:=n) (by omega)
 rw[hl]at this
 exact this
theorem cz_full {row:List Rat} {n:Nat} (h:row.length=n):cz row n n=row:=by
 rw[cz,List.take_of_length_le (by omega)]
 exact fz_full h
theorem ev_z22R (N:SysGLib L) (n:Nat) (j:Int) (hn:n≤65536):EvR L 135 [.int .i64 (n:Int),.int .i64 j] 3 ((unitL n j).map eQ):=by
 have hO:=ev_r3_Of N.toRefGLib 0 (by omega)
 have hI:=ev_r3_Of N.toRefGLib 1 (by omega)
 refine EvR.x N.ref22_zero rfl rfl ?_
 (repeat' (refine AKM.x ?_;conv=>whnf))
 refine AKM.loop1 (fun i=>n-i) (fun (i:Nat)=>i≤n) (fun i=>[(6,.int .i64 i),(5,.row 5 0 3 0 i)]) (fun i=>[(5,5,.rw 3 ((unitL i j).map eQ))]) [] [] 0 (by (conv=>whnf);exact ⟨rfl,rfl,rfl⟩) (by omega) ?_
 intro i p1 ih
 have hlen:=unitL_len i j
 by_cases hi:i<n
 ·have hsucc:=unitL_succ i j
  by_cases hj:(i:Int)=j
  ·rw[if_pos hj]at hsucc
   (repeat' (first|(refine CmpP.go (fun hc => ?_) (fun hc => ?_)<;>first|(exfalso;omega)|(conv=>whnf))|(refine RowP.e1 ?_;conv=>whnf)|(refine AKM.x ?_;conv=>whnf)|(refine CallP.go (hI) ?_;conv=>whnf)))
   refine AppR.one (enc:=eQ) ((1:Int):Rat) rfl hlen.symm rfl (by omega) (by omega) ?_
   (conv=>whnf)
   (repeat' (refine OpP.add ?_ ?_;omega;conv=>whnf))
   rw[show (unitL i j++[((1:Int):Rat)]).length=i+1 by simp [hlen],show unitL i j++[((1:Int):Rat)]=unitL (i+1) j from hsucc.symm]
   exact AKM.back [(5,18)] (by (conv=>whnf);exact ⟨rfl,rfl,rfl⟩) (ih (i+1) (by omega) (by omega))
  ·rw[if_neg hj]at hsucc
   (repeat' (first|(refine CmpP.go (fun hc => ?_) (fun hc => ?_)<;>first|(exfalso;omega)|(conv=>whnf))|(refine RowP.e1 ?_;conv=>whnf)|(refine AKM.x ?_;conv=>whnf)|(refine CallP.go (hO) ?_;conv=>whnf)))
   refine AppR.one (enc:=eQ) ((0:Int):Rat) rfl hlen.symm rfl (by omega) (by omega) ?_
   (conv=>whnf)
   (repeat' (refine OpP.add ?_ ?_;omega;conv=>whnf))
   rw[show (unitL i j++[((0:Int):Rat)]).length=i+1 by simp [hlen],show unitL i j++[((0:Int):Rat)]=unitL (i+1) j from hsucc.symm]
   exact AKM.back [(5,22)] (by (conv=>whnf);exact ⟨rfl,rfl,rfl⟩) (ih (i+1) (by omega) (by omega))
 ·obtain rfl:i=n:=by omega
  clear ih
  (repeat' (first|(refine CmpP.go (fun hc => ?_) (fun hc => ?_)<;>first|(exfalso;omega)|(conv=>whnf))|(refine AKM.x ?_;conv=>whnf)))
  exact ⟨rfl,rfl,by simp [hlen],rfl,cl_eQs _⟩
theorem ev_Times22 (N:SysGLib L) (m:List (List Rat)) (b:List Rat) (q1 q2:Bool) (n k s:Nat) (hs:Sq n m) (hb:b.length=n) (hm:Ms k m) (hbb:Bs s b) (hn:n≤4) (hK:4*(k+s+1)+k+s<2199023255552):Ev L 138 [.sl q1 (m.map fun r=>[AV.sl true (r.map eQ)]),.sl q2 (b.map eQ)] (.sl false ((mvQ m b).map eQ)):=by
 have hml:=hs.l
 have hvl:=mvQ_len m b
 refine Ev.x N.ref22_Times rfl rfl ?_
 (repeat' (refine AKM.x ?_;conv=>whnf))
 refine AKM.loop1 (fun j=>m.length-j) (fun (j:Nat)=>j≤m.length) (fun j=>[(6,.int .i64 j),(5,.row 138005 0 3 0 j)]) (fun j=>[(138005,138005,.rw 3 (((mvQ m b).take j).map eQ))]) [] [] 0 (by (conv=>whnf);exact ⟨rfl,rfl,rfl⟩) (by omega) ?_
 intro j r1 jh
 have hlen:((mvQ m b).take j).length=j:=by rw[List.length_take];omega
 by_cases hj:j<m.length
 ·obtain ⟨r,hr⟩ : ∃ r,m[j]? = some r:=⟨_,List.getElem?_eq_getElem hj⟩
  have hr':m[(j:Int).toNat]? = some r:=hr
  have hrl:=hs.at hr
  have hP2:=fun q q'=>ev_Inner N r b q q' k s (by omega) (hm.at hr) hbb (by rw[hrl];have:=Nat.mul_le_mul_right (k+s+1) hn;omega) (by omega)
  have hy:(mvQ m b)[j]? = some (dotQ r b):=by rw[mvQ,List.getElem?_map,hr];rfl
  have hlen1:((mvQ m b).take (j+1)).length=j+1:=by rw[List.length_take];omega
  (repeat' (first|(refine CmpP.go (fun hc => ?_) (fun hc => ?_)<;>first|(exfalso;omega)|(conv=>whnf))|(refine LenP.go ?_;conv=>whnf)|(refine RdP.at (by assumption) ?_ rfl ?_;omega;conv=>whnf)|(refine RowP.e1 ?_;conv=>whnf)|(refine AKM.x ?_;conv=>whnf)|(refine CallP.go (hP2 _ _) ?_;conv=>whnf)))
  refine AppR.one (enc:=eQ) (dotQ r b) rfl hlen.symm rfl (by omega) (by omega) ?_
  (conv=>whnf)
  (repeat' (refine OpP.add ?_ ?_;omega;conv=>whnf))
  rw[←take_snoc' hy,hlen1]
  exact AKM.back [(138005,138021)] (by (conv=>whnf);exact ⟨rfl,rfl,rfl⟩) (jh (j+1) (by omega) (by omega))
 obtain rfl:j=m.length:=by omega
 clear jh
 rw[List.take_of_length_le (by omega)]
 (repeat' (first|(refine CmpP.go (fun hc => ?_) (fun hc => ?_)<;>first|(exfalso;omega)|(conv=>whnf))|(refine LenP.go ?_;conv=>whnf)|(refine AKM.x ?_;conv=>whnf)))
 refine SnR.all (enc:=eQ) (fun _=>rfl) rfl hvl.symm ?_
 (conv=>whnf)
 exact FinP.go rfl (by simp only[Clean,true_and];exact cl_eQs _)
theorem div_cof (t:Rat) (k:Nat):t/((-((k+1:Nat):Int):Int):Rat)=t*Rat.divInt (-1) ((k+1:Nat):Int):=by
 have h:Rat.divInt (-1) ((k+1:Nat):Int)=(-1)/(((k+1:Nat):Int):Rat):=by
  rw[Rat.divInt_ofNat,Rat.mkRat_eq_div];rfl
 have h0:(((k+1:Nat):Int):Rat)≠0:=by
  intro e
  have:(((k+1:Nat):Int):Rat)=((0:Int):Rat):=e
  have:=Rat.intCast_inj.1 this
  omega
 rw[h,Rat.intCast_neg]
 grind
theorem neg_bt (k:Nat) (hk:k≤7):Bt 3 (-(((k+1:Nat):Int):Rat)):=by
 constructor
 ·show (-((k+1:Nat):Int)).natAbs≤8;omega
 ·show 1≤8;omega
theorem neg_ne (k:Nat):((-((k+1:Nat):Int):Int):Rat)≠0:=by
 intro e
 have:((-((k+1:Nat):Int):Int):Rat)=((0:Int):Rat):=e
 have:=Rat.intCast_inj.1 this
 omega
theorem ev_Transfer22 (N:TrGLib L) (S:SysQ) (n:Nat) (h:S.Ok n 9) (hn:n≤4):Ev L 195 [.agg (eS S)] (.tup [.agg [.sl false ((tfB S n).map eQ),.sl false ((tfA S n).map eQ)],.int .i64 0]):=by
 have hSd:=ev_Sound22 N.toSysGLib S n 9 h (by omega)
 have hO:=ev_r3_Of N.toRefGLib 0 (by omega)
 have hI:=ev_r3_Of N.toRefGLib 1 (by omega)
 have hZ:=fun j=>ev_z22R N.toSysGLib n j (by omega)
 have hm:=h.la
 have hsq:Sq n S.a:=⟨hm,h.lr⟩
 refine Ev.x N.ref22_Transfer rfl rfl ?_
 (repeat' (first|(refine CmpP.go (fun hc => ?_) (fun hc => ?_)<;>first|(exfalso;omega)|(conv=>whnf))|(refine LenP.go ?_;conv=>whnf)|(refine RowP.e1 ?_;conv=>whnf)|(refine AKM.x ?_;conv=>whnf)|(refine CallP.go (hSd) ?_;conv=>whnf)|(refine CallP.go (hO) ?_;conv=>whnf)|(refine CallP.go (hI) ?_;conv=>whnf)))
 rw[hm]
 refine AppR.one (enc:=eQ) (l:=[]) 0 rfl rfl rfl (by simp) (by simp) ?_
 (conv=>whnf)
 skip
 unfold MkM
 refine ⟨⟨by omega,by omega,by simp only[roomMax];omega,by omega⟩,?_⟩
 rw[Int.toNat_natCast]
 (conv=>whnf)
 skip
 rw[show (([]:List Rat)++[0])=aboveQ S n 0 from rfl,show (aboveQ S n 0).length=1 from rfl]
 have hZl:=fun j=>unitL_len n j
 refine AKM.loop1 (fun i=>n-i) (fun (i:Nat)=>i≤n) (fun i=>[(8,.int .i64 i)]) (fun i=>[(36,36,.mx (mz (idQ n) n i))]) [] [] 0 (by first|exact (by (conv=>whnf);exact ⟨rfl,rfl,rfl⟩)|(rw[←mz_zero (idQ n)];exact (by (conv=>whnf);exact ⟨rfl,rfl,rfl⟩))) (by omega) ?_
 intro i p1 ih
 have hzl:=mz_len (Q:=idQ n) p1
 by_cases hi:i<n
 ·have hrow:(idQ n)[i]? = some (unitL n i):=by rw[idQ,List.getElem?_map,List.getElem?_range hi];rfl
  have hst:=mz_set hrow hi
  generalize mz (idQ n) n i=R0 at *
  (repeat' (first|(refine CmpP.go (fun hc => ?_) (fun hc => ?_)<;>first|(exfalso;omega)|(conv=>whnf))|(refine AKM.x ?_;conv=>whnf)))
  refine CallR.go (enc:=eQ) n (hZ (i:Int)) (by simp [unitL_len]) ?_
  (conv=>whnf)
  (repeat' (first|(refine Req.go ?_ ?_;omega;conv=>whnf)|fail))
  refine Req.go (by simp [unitL_len]) ?_
  refine SetM.fz (i:=i) (by omega) (by omega) ?_
  rw[hst]
  (conv=>whnf)
  (repeat' (refine OpP.add ?_ ?_;omega;conv=>whnf))
  exact AKM.back [] (by (conv=>whnf);exact ⟨rfl,rfl,rfl⟩) (ih (i+1) (by omega) (by omega))
 obtain rfl:i=n:=by omega
 clear ih
 rw[mz_full (Sq.id i).l]
 rw[show ([[AV.bool (decide (((1:Int):Rat).num<0)),AV.sl false ((dg ((1:Int):Rat).num.natAbs).map e32),AV.sl false ((dg ((1:Int):Rat).den).map e32)]]:List (List AV))=(belowQ S.a i 0).map eQ from rfl]
 (repeat' (first|(refine CmpP.go (fun hc => ?_) (fun hc => ?_)<;>first|(exfalso;omega)|(conv=>whnf))|(refine AKM.x ?_;conv=>whnf)))
 refine AKM.loop2 (fun k _=>i-k) (fun (k _:Nat)=>k≤i) (fun k _=>[(9,.int .i64 ((k+1:Nat):Int)),(5,.row 30 0 3 0 (k+1)),(6,.row 34 0 3 0 (k+1)),(7,.row 36 0 1 0 i)]) (fun k t=>[(30,30,.rw 3 ((belowQ S.a i k).map eQ)),(34,6,.rw 3 ((aboveQ S i k).map eQ)),(36,t,.mx (mxR 3 eQ (flM S.a i k)))]) [] [] 0 36 (by (conv=>whnf);exact ⟨rfl,rfl,rfl⟩) (by omega) ?_
 intro k t p2 kh
 by_cases hk:k<i
 ·obtain ⟨b1,b2,b3⟩:=Ms.fl hsq h.ba hn k (by omega)
  have hKk:=flK_le k (by omega)
  have hMs:=Sq.fl (a:=S.a) hm k
  have hMl:=hMs.l
  have hfl:flM S.a i (k+1)=addD (mulQ S.a (flM S.a i k) i) (cofQ S.a i k) i:=rfl
  have hcf:cofQ S.a i k=trQ (mulQ S.a (flM S.a i k) i) i*Rat.divInt (-1) ((k+1:Nat):Int):=rfl
  have hab:=aboveQ_succ S i k
  have hbe:=belowQ_succ S.a i k
  have hal:=aboveQ_len S i k
  have hbl:=belowQ_len S.a i k
  have hPs:=Sq.mul hm (flM S.a i k)
  generalize flM S.a i k=Mk at *
  generalize cofQ S.a i k=ck at *
  generalize aboveQ S i k=ab at *
  generalize belowQ S.a i k=be at *
  generalize flK k=fk at *
  have himb:Bs (4*(fk+10)) (mvQ Mk S.b):=by
   intro x hx
   obtain ⟨r,hr,rfl⟩:=List.mem_map.1 hx
   refine ((b1 r hr).dot h.bb).le ?_
   rw[hMs.r r hr]
   exact Nat.mul_le_mul hn (by omega)
  have himl:=mvQ_len Mk S.b
  have hTi:=fun q q'=>ev_Times22 N.toSysGLib Mk S.b q q' i fk 9 hMs h.lb b1 h.bb hn (by omega)
  have hP:=fun q q'=>ev_Inner N.toSysGLib S.c (mvQ Mk S.b) q q' 9 (4*(fk+10)) (by rw[h.lc];omega) h.bc himb (by rw[h.lc];have:=Nat.mul_le_mul_right (9+4*(fk+10)+1) hn;omega) (by rw[h.lc];omega)
  generalize mvQ Mk S.b=img at *
  generalize dotQ S.c img=av at *
  (repeat' (first|(refine CmpP.go (fun hc => ?_) (fun hc => ?_)<;>first|(exfalso;omega)|(conv=>whnf))|(refine AKM.x ?_;conv=>whnf)))
  refine SnM.all (fun _=>rfl) rfl hMl.symm ?_
  (conv=>whnf)
  (repeat' (first|(refine RowP.e1 ?_;conv=>whnf)|(refine CallP.go (hTi _ _) ?_;conv=>whnf)|(refine CallP.go (hP _ _) ?_;conv=>whnf)))
  refine AppR.one (enc:=eQ) av rfl hal.symm rfl (by omega) (by omega) ?_
  rw[←hab,aboveQ_len]
  (conv=>whnf)
  skip
  unfold MkM
  refine ⟨⟨by omega,by omega,by simp only[roomMax];omega,by omega⟩,?_⟩
  rw[Int.toNat_natCast]
  (conv=>whnf)
  (repeat' (refine CallP.go (hO) ?_;conv=>whnf))
  have hPat : ∀ (e:Nat) row,S.a[e]? = some row→(mulQ S.a Mk i)[e]? = some (mulRow row Mk i):=fun e row hr=>by rw[mulQ,List.getElem?_map,hr];rfl
  have hPl:=hPs.l
  generalize hPg:mulQ S.a Mk i=P at *
  have htr0:((0:Int):Rat)=trQ P 0:=rfl
  rw[htr0]
  refine AKM.loop1 (fun e=>i-e) (fun (e:Nat)=>e≤i) (fun e=>[(12,.int .i64 e)]) (fun e=>[(64,64,.mx (mz P i e)),(11,11,.bx (eQ (trQ P e)))]) [] [] 0 (by first|exact (by (conv=>whnf);exact ⟨rfl,rfl,rfl⟩)|(rw[←mz_zero P];exact (by (conv=>whnf);exact ⟨rfl,rfl,rfl⟩))) (by omega) ?_
  intro e r1 eh
  have hzl:=mz_len (Q:=P) r1
  by_cases he1:e<i
  ·obtain ⟨arow,harow⟩ : ∃ arow,S.a[e]? = some arow:=⟨_,List.getElem?_eq_getElem (by omega)⟩
   have harow':S.a[(e:Int).toNat]? = some arow:=harow
   have harl:=hsq.at harow
   have hrow:=hPat e arow harow
   have hrl:=mulRow_len arow Mk i
   have hra : ∀ j,j<i→(mulRow arow Mk i)[j]? = some (dotQ arow (colQ Mk j)):=fun j hj=>by rw[mulRow,List.getElem?_map,List.getElem?_range hj];rfl
   have hst:=mz_set hrow he1
   have btr:=Ms.tr b2 e
   have hkb:e*(4*(fk+10)+1)≤4*(4*(fk+10)+1):=Nat.mul_le_mul_right _ (by omega)
   have b2r:=b2.at hrow
   generalize mulRow arow Mk i=row at *
   generalize mz P i e=R0 at *
   (repeat' (first|(refine CmpP.go (fun hc => ?_) (fun hc => ?_)<;>first|(exfalso;omega)|(conv=>whnf))|(refine AKM.x ?_;conv=>whnf)))
   refine CallR.go (enc:=eQ) i (hZ (-1)) (by simp [unitL_len]) ?_
   (conv=>whnf)
   (repeat' (first|(refine Req.go ?_ ?_;omega;conv=>whnf)|fail))
   refine Req.go (by simp [unitL_len]) ?_
   refine SetM.fz (i:=e) (by omega) (by omega) ?_
   rw[unitL_neg,←cz_zero row i]
   (conv=>whnf)
   skip
   refine AKM.loop1 (fun j=>i-j) (fun (j:Nat)=>j≤i) (fun j=>[(13,.int .i64 j)]) (fun j=>[(64,64,.mx (R0.set e (some (3,(cz row i j).map eQ))))]) [] [] 0 (by (conv=>whnf);exact ⟨rfl,rfl,rfl⟩) (by omega) ?_
   intro j r2 jh
   have hcl:=cz_len (row:=row) r2
   by_cases hj:j<i
   ·have hcj:=cz_set (hra j hj) hj
    have hc0:=cz_at (n:=i) (j:=j) (row:=row) (by omega) hj
    have hset0:(cz row i j).set j (dotQ (arow.take 0) ((colQ Mk j).take 0))=cz row i j:=by
     rw[show dotQ (arow.take 0) ((colQ Mk j).take 0)=0 from rfl]
     exact list_set_self hc0
    have hcoll:=colQ_len Mk j
    generalize cz row i j=C at *
    (repeat' (first|(refine CmpP.go (fun hc => ?_) (fun hc => ?_)<;>first|(exfalso;omega)|(conv=>whnf))|(refine AKM.x ?_;conv=>whnf)))
    refine AKM.loop1 (fun g=>i-g) (fun (g:Nat)=>g≤i) (fun g=>[(14,.int .i64 g)]) (fun g=>[(64,64,.mx (R0.set e (some (3,(C.set j (dotQ (arow.take g) ((colQ Mk j).take g))).map eQ))))]) [] [] 0 (by first|exact (by (conv=>whnf);exact ⟨rfl,rfl,rfl⟩)|(rw[hset0];exact (by (conv=>whnf);exact ⟨rfl,rfl,rfl⟩))) (by omega) ?_
    intro g r3 gh
    by_cases hg:g<i
    ·obtain ⟨mrow,hmrow⟩ : ∃ mrow,Mk[g]? = some mrow:=⟨_,List.getElem?_eq_getElem (by omega)⟩
     have hmrl:=hMs.at hmrow
     obtain ⟨x,hx⟩ : ∃ x,arow[g]? = some x:=⟨_,List.getElem?_eq_getElem (by omega)⟩
     have hx':arow[(g:Int).toNat]? = some x:=hx
     obtain ⟨y,hy⟩ : ∃ y,mrow[j]? = some y:=⟨_,List.getElem?_eq_getElem (by omega)⟩
     have hcy:(colQ Mk j)[g]? = some y:=by rw[colQ,List.getElem?_map,hmrow,Option.map_some,gD_of hy]
     have hdt:=dotQ_take hx hcy
     have bx:Bt 9 x:=(h.ba arow (List.mem_of_getElem? harow)).at hx
     have by':Bt fk y:=(b1.at hmrow).at hy
     have bs:Bt (4*(9+fk+1)) (dotQ (arow.take g) ((colQ Mk j).take g)):=by
      refine (((h.ba arow (List.mem_of_getElem? harow)).take g).dot ((b1.col j).take g)).le (Nat.mul_le_mul_right _ ?_)
      rw[List.length_take];omega
     have hM:=ev_mul3 N.toRefGLib bx by' (by omega) (by omega)
     have hA:=ev_add3 N.toRefGLib bs (bx.mul by') (by omega) (by omega)
     rw[←hdt]at hA
     have hCg:(C.set j (dotQ (arow.take g) ((colQ Mk j).take g)))[j]? = some (dotQ (arow.take g) ((colQ Mk j).take g)):=by rw[List.getElem?_set,if_pos rfl,if_pos (by omega)]
     generalize dotQ (arow.take g) ((colQ Mk j).take g)=s at *
     have hCl2:(C.set j s).length=i:=by rw[List.length_set];omega
     (repeat' (first|(refine CmpP.go (fun hc => ?_) (fun hc => ?_)<;>first|(exfalso;omega)|(conv=>whnf))|(refine Req.go ?_ ?_;omega;conv=>whnf)|(refine AKM.x ?_;conv=>whnf)))
     refine LdM.st (by omega) (by omega) ?_
     (conv=>whnf)
     (repeat' (first|(refine Req.go ?_ ?_;omega;conv=>whnf)|fail))
     refine LdM.st (by omega) (by omega) ?_
     (conv=>whnf)
     skip
     refine Req.go (by rw[List.length_map];omega) ?_
     (conv=>whnf)
     skip
     refine GetM.st (by omega) (by omega) ?_
     (conv=>whnf)
     (repeat' (first|(refine Req.go ?_ ?_;omega;conv=>whnf)|(refine RdP.at (by assumption) ?_ rfl ?_;omega;conv=>whnf)|(refine LdR.nat ?_ (fun _=>rfl) (fun v hv => ?_);omega;conv=>whnf)|(refine LdM.nat ?_ (fun r hr => ?_);omega;conv=>whnf)))
     cases hCg.symm.trans hv
     skip
     cases hmrow.symm.trans hr
     refine Req.go (by rw[List.length_map];omega) ?_
     (conv=>whnf)
     (repeat' (first|(refine LdR.nat ?_ (fun _=>rfl) (fun v hv => ?_);omega;conv=>whnf)|(refine GetM.ati (by assumption) ?_;conv=>whnf)))
     cases hy.symm.trans hv
     (repeat' (first|(refine CallP.go (hM) ?_;conv=>whnf)|(refine CallP.go (hA) ?_;conv=>whnf)))
     refine Req.go (by rw[List.length_map];omega) ?_
     (conv=>whnf)
     refine GetM.st (by omega) (by omega) ?_
     (conv=>whnf)
     skip
     refine StR.nat (enc:=eQ) (dotQ (arow.take (g+1)) ((colQ Mk j).take (g+1))) rfl (fun _=>rfl) (by omega) ?_
     (conv=>whnf)
     rw[List.set_set]
     refine PutM.st (by omega) (by rw[List.length_map,List.length_map,List.length_set];omega) ?_
     (conv=>whnf)
     (repeat' (refine OpP.add ?_ ?_;omega;conv=>whnf))
     exact AKM.back [] (by (conv=>whnf);exact ⟨rfl,rfl,rfl⟩) (gh (g+1) (by omega) (by omega))
    obtain rfl:g=i:=by omega
    clear gh
    rw[dotQ_all harl,hcj]
    (repeat' (first|(refine CmpP.go (fun hc => ?_) (fun hc => ?_)<;>first|(exfalso;omega)|(conv=>whnf))|(refine OpP.add ?_ ?_;omega;conv=>whnf)|(refine AKM.x ?_;conv=>whnf)))
    exact AKM.back [] (by (conv=>whnf);exact ⟨rfl,rfl,rfl⟩) (jh (j+1) (by omega) (by omega))
   obtain rfl:j=i:=by omega
   clear jh
   rw[cz_full hrl]
   obtain ⟨x,hx⟩ : ∃ x,row[e]? = some x:=⟨_,List.getElem?_eq_getElem (by omega)⟩
   have htx:trQ P (e+1)=trQ P e+x:=by rw[trQ,getD_row hrow,gD_of hx]
   have hA:=ev_add3 N.toRefGLib btr (b2r.at hx) (by omega) (by omega)
   rw[←htx]at hA
   (repeat' (first|(refine CmpP.go (fun hc => ?_) (fun hc => ?_)<;>first|(exfalso;omega)|(conv=>whnf))|(refine Req.go ?_ ?_;omega;conv=>whnf)|(refine AKM.x ?_;conv=>whnf)))
   refine LdM.st (by omega) (by omega) ?_
   (conv=>whnf)
   skip
   refine Req.go (by rw[List.length_map];omega) ?_
   (conv=>whnf)
   skip
   refine GetM.st (by omega) (by omega) ?_
   (conv=>whnf)
   (repeat' (refine LdR.nat ?_ (fun _=>rfl) (fun v hv => ?_);omega;conv=>whnf))
   cases hx.symm.trans hv
   (repeat' (first|(refine OpP.add ?_ ?_;omega;conv=>whnf)|(refine CallP.go (hA) ?_;conv=>whnf)))
   rw[hst]
   exact AKM.back [] (by (conv=>whnf);exact ⟨rfl,rfl,rfl⟩) (eh (e+1) (by omega) (by omega))
  obtain rfl:e=i:=by omega
  clear eh
  rw[mz_full hPl]
  have btr:=Ms.tr b2 e
  have hkb:e*(4*(fk+10)+1)≤4*(4*(fk+10)+1):=Nat.mul_le_mul_right _ (by omega)
  have hF:=ev_r3_Of N.toRefGLib (-((k+1:Nat):Int)) (by omega)
  have hDv:=ev_div3 N.toRefHLib btr (y:=((-((k+1:Nat):Int):Int):Rat)) (l:=3) (by rw[Rat.intCast_neg];exact neg_bt k (by omega)) (by omega) (by omega) (neg_ne k)
  rw[div_cof,←hcf]at hDv
  (repeat' (first|(refine CmpP.go (fun hc => ?_) (fun hc => ?_)<;>first|(exfalso;omega)|(conv=>whnf))|(refine UnP.neg ?_ ?_;omega;conv=>whnf)|(refine RowP.e1 ?_;conv=>whnf)|(refine AKM.x ?_;conv=>whnf)|(refine CallP.go (hF) ?_;conv=>whnf)|(refine CallP.go (hDv) ?_;conv=>whnf)))
  refine AppR.one (enc:=eQ) ck rfl hbl.symm rfl (by omega) (by omega) ?_
  rw[←hbe,belowQ_len]
  (conv=>whnf)
  skip
  have hz0:=addD_zero P ck
  refine AKM.loop1 (fun f=>e-f) (fun (f:Nat)=>f≤e) (fun f=>[(17,.int .i64 f)]) (fun f=>[(64,64,.mx (mxR 3 eQ (addD P ck f)))]) [] [] 0 (by first|exact (by (conv=>whnf);exact ⟨rfl,rfl,rfl⟩)|(rw[hz0];exact (by (conv=>whnf);exact ⟨rfl,rfl,rfl⟩))) (by omega) ?_
  intro f r5 fh
  by_cases hf2:f<e
  ·obtain ⟨row,hrow⟩ : ∃ row,P[f]? = some row:=⟨_,List.getElem?_eq_getElem (by omega)⟩
   have hrl:=hPs.at hrow
   obtain ⟨x,hx⟩ : ∃ x,row[f]? = some x:=⟨_,List.getElem?_eq_getElem (by omega)⟩
   have hA:=ev_add3 N.toRefGLib ((b2.at hrow).at hx) b3 (by omega) (by omega)
   have hnx:=addD_next (c:=ck) hrow
   have hsu:=addD_succ (c:=ck) hrow
   rw[gD_of hx]at hsu
   have hdl:=addD_len P ck f
   generalize addD P ck f=D0 at *
   (repeat' (first|(refine CmpP.go (fun hc => ?_) (fun hc => ?_)<;>first|(exfalso;omega)|(conv=>whnf))|(refine Req.go ?_ ?_;omega;conv=>whnf)|(refine LdM.nat ?_ (fun r hr => ?_);omega;conv=>whnf)|(refine AKM.x ?_;conv=>whnf)))
   cases hnx.symm.trans hr
   cases hnx.symm.trans ‹D0[f]? = some r›
   refine Req.go (by rw[List.length_map];omega) ?_
   (conv=>whnf)
   (repeat' (first|(refine LdR.nat ?_ (fun _=>rfl) (fun v hv => ?_);omega;conv=>whnf)|(refine GetM.ati (by assumption) ?_;conv=>whnf)))
   cases hx.symm.trans hv
   (repeat' (refine CallP.go (hA) ?_;conv=>whnf))
   refine Req.go (by rw[List.length_map];omega) ?_
   (conv=>whnf)
   (repeat' (refine GetM.ati (by assumption) ?_;conv=>whnf))
   refine StR.nat (enc:=eQ) (x+ck) rfl (fun _=>rfl) (by omega) ?_
   (conv=>whnf)
   refine PutM.nat (by rw[List.length_set]) ?_
   rw[←hsu]
   (conv=>whnf)
   (repeat' (refine OpP.add ?_ ?_;omega;conv=>whnf))
   exact AKM.back [] (by (conv=>whnf);exact ⟨rfl,rfl,rfl⟩) (fh (f+1) (by omega) (by omega))
  obtain rfl:f=e:=by omega
  clear fh
  rw[←hfl]
  (repeat' (first|(refine CmpP.go (fun hc => ?_) (fun hc => ?_)<;>first|(exfalso;omega)|(conv=>whnf))|(refine OpP.add ?_ ?_;omega;conv=>whnf)|(refine AKM.x ?_;conv=>whnf)))
  exact AKM.back [(36,64),(30,136),(34,62)] (by (conv=>whnf);exact ⟨rfl,rfl,rfl⟩) (kh (k+1) 64 (by omega) (by omega))
 obtain rfl:k=i:=by omega
 clear kh
 have hbeB:Bs 60000000 (belowQ S.a k k):=by
  intro x hx
  simp only[belowQ,List.mem_cons,List.mem_map,List.mem_range]at hx
  rcases hx with rfl|⟨j,hj,rfl⟩
  ·exact Bt.one _
  ·have hKj:=flK_le j (by omega)
   exact (Ms.fl hsq h.ba hn j (by omega)).2.2.le (by omega)
 have habB:Bs 60000000 (aboveQ S k k):=by
  intro x hx
  simp only[aboveQ,List.mem_cons,List.mem_map,List.mem_range]at hx
  rcases hx with rfl|⟨j,hj,rfl⟩
  ·exact Bt.zero _
  ·have hKj:=flK_le j (by omega)
   have himb:Bs (4*(flK j+10)) (mvQ (flM S.a k j) S.b):=by
    intro x hx
    obtain ⟨r,hr,rfl⟩:=List.mem_map.1 hx
    refine (((Ms.fl hsq h.ba hn j (by omega)).1 r hr).dot h.bb).le ?_
    rw[(Sq.fl hm j).r r hr]
    exact Nat.mul_le_mul hn (by omega)
   refine (h.bc.dot himb).le ?_
   rw[h.lc]
   have:=Nat.mul_le_mul_right (9+4*(flK j+10)+1) hn
   omega
 have hbl:=belowQ_len S.a k k
 have hal:=aboveQ_len S k k
 have hmB:Bs 60000009 ((belowQ S.a k k).map (· * S.d)):=by
  intro y hy
  obtain ⟨x,hx,rfl⟩:=List.mem_map.1 hy
  exact ((hbeB x hx).mul h.bd).le (by omega)
 have hml:((belowQ S.a k k).map (· * S.d)).length=k+1:=by rw[List.length_map];exact hbl
 have htl:=trimQ_len ((belowQ S.a k k).map (· * S.d))
 have hct:=cutN_le ((belowQ S.a k k).map (· * S.d)) ((belowQ S.a k k).map (· * S.d)).length
 have hSc:=fun q=>ev_r5_Scale N q (belowQ S.a k k) S.d 60000000 9 hbeB h.bd (by omega) (by omega)
 have hAd:=fun q q'=>ev_r5_Add N q q' (trimQ ((belowQ S.a k k).map (· * S.d))) (aboveQ S k k) 60000009 60000000 hmB.trim habB (by omega) (by omega) (by omega)
 have hTr:=fun q=>ev_r5_Trim N.toR05GLib q (belowQ S.a k k) 60000000 hbeB (by omega) (by omega)
 have hpl:=addP_len (aboveQ S k k) (trimQ ((belowQ S.a k k).map (· * S.d)))
 have htl2:=trimQ_len (addP (aboveQ S k k) (trimQ ((belowQ S.a k k).map (· * S.d))))
 have hct2:=cutN_le (addP (aboveQ S k k) (trimQ ((belowQ S.a k k).map (· * S.d)))) (addP (aboveQ S k k) (trimQ ((belowQ S.a k k).map (· * S.d)))).length
 have hpB:Bs 130000000 (addP (aboveQ S k k) (trimQ ((belowQ S.a k k).map (· * S.d)))):=by
  intro z hz
  obtain ⟨i,hi⟩:=List.getElem?_of_mem hz
  have h1:=(List.getElem?_eq_some_iff.1 hi).1
  rw[hpl]at h1
  rw[addP_at h1]at hi
  obtain rfl:=Option.some.inj hi
  exact ((getD_bt habB i).add (getD_bt hmB.trim i)).le (by omega)
 have hT2:=fun q=>ev_r5_Trim N.toR05GLib q (trimQ (addP (aboveQ S k k) (trimQ ((belowQ S.a k k).map (· * S.d))))) 130000000 hpB.trim (by omega) (by omega)
 rw[trimQ_idem]at hT2
 have hfin:Clean (.tup [.agg [.sl false ((tfB S k).map eQ),.sl false ((tfA S k).map eQ)],.int .i64 0]):=by
  simp only[Clean,CleanL,true_and,and_true]
  exact ⟨cl_eQs _,cl_eQs _⟩
 unfold tfB tfA at *
 generalize trimQ (addP (aboveQ S k k) (trimQ ((belowQ S.a k k).map (· * S.d))))=rB at *
 generalize trimQ ((belowQ S.a k k).map (· * S.d))=sc at *
 generalize trimQ (belowQ S.a k k)=rA at *
 (repeat' (first|(refine CmpP.go (fun hc => ?_) (fun hc => ?_)<;>first|(exfalso;omega)|(conv=>whnf))|(refine AKM.x ?_;conv=>whnf)))
 refine SnR.all (enc:=eQ) (fun _=>rfl) rfl hbl.symm ?_
 (conv=>whnf)
 (repeat' (refine CallP.go (hSc _) ?_;conv=>whnf))
 refine SnR.all (enc:=eQ) (fun _=>rfl) rfl hal.symm ?_
 (conv=>whnf)
 (repeat' (first|(refine CallP.go (hAd _ _) ?_;conv=>whnf)|(refine CallP.go (hT2 _) ?_;conv=>whnf)))
 refine SnR.all (enc:=eQ) (fun _=>rfl) rfl hbl.symm ?_
 (conv=>whnf)
 (repeat' (refine CallP.go (hTr _) ?_;conv=>whnf))
 exact FinP.go rfl hfin
end Go.Eng
