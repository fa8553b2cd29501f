/-
  Rational numbers and polynomials of the references: Same, SameList, Sign; Trim, Equal, Same.
-/
import Derived.Test.YtdgodemmncmlaaaGreatB8
import Derived.Test.YtdgodemmncmlaaaGreatB4
import Derived.Test.YtdgodemmncmlaaaGreatB7
import Derived.Test.YtdgodemmncmlaaaGreatB3
set_option linter.unusedSimpArgs false
set_option linter.unusedVariables false
set_option linter.unnecessarySimpa false
namespace Go.Eng
open F
attribute [local irreducible] AKM CmpP Req OpP UnP ConvP RdP LdR StR MkR LenP AppR AppN CpyR RowP SnR Bds SlS CallP CalP FinP pw LdM GetM SetM PutM MkM AppM SnM FlP CallR
set_option maxHeartbeats 8000000
variable {L:Lib}
def cutN (l:List Rat):Nat→Nat
 | 0=>0
 | n+1=>if l.getD n 0=0 then cutN l n else n+1
theorem cutN_le (l:List Rat) : ∀ n,cutN l n≤n
 | 0=>Nat.le_refl _
 | n+1=>by rw[cutN];split;exact Nat.le_succ_of_le (cutN_le l n);exact Nat.le_refl _
def trimQ (l:List Rat):List Rat:=l.take (cutN l l.length)
theorem cutN_take (l:List Rat) (k:Nat) : ∀ n,n≤k→cutN (l.take k) n=cutN l n
 | 0,_=>rfl
 | n+1,h=>by
  rw[cutN,cutN,cutN_take l k n (by omega),List.getD_eq_getElem?_getD,List.getD_eq_getElem?_getD,List.getElem?_take_of_lt (by omega)]
theorem cutN_idem (l:List Rat) : ∀ n,cutN l (cutN l n)=cutN l n
 | 0=>rfl
 | n+1=>by
  rw[cutN];split
  ·exact cutN_idem l n
  ·next h=>rw[cutN,if_neg h]
theorem trimQ_len (l:List Rat):(trimQ l).length=cutN l l.length:=by rw[trimQ,List.length_take];exact Nat.min_eq_left (cutN_le _ _)
theorem trimQ_idem (l:List Rat):trimQ (trimQ l)=trimQ l:=by
 have h:=trimQ_len l
 have h2:cutN (trimQ l) (trimQ l).length=(trimQ l).length:=by
  rw[h,trimQ,cutN_take _ _ _ (Nat.le_refl _),cutN_idem]
 rw[trimQ,h2,List.take_length]
theorem Bs.trim {k:Nat} {l:List Rat} (h:Bs k l):Bs k (trimQ l):=fun x hx=>h x (List.mem_of_mem_take hx)
theorem take_snocQ {l:List Rat} {i:Nat} {x:Rat} (h:l[i]? = some x):l.take (i+1)=l.take i++[x]:=by
 rw[List.take_add_one,h];rfl
end Go.Eng
namespace Go.Eng
open F
theorem evI_ro {L:Lib} {f:Nat} {fn:AFn} {vs:List AV} {own own':Own} {r:AV} (hL:L f=some fn) (hro:cRo fn.body=true) (h:EvI L f vs own r own'):own'=own:=by
 obtain ⟨n,h⟩:=h
 cases n with
 | zero=>simp [evI]at h
 | succ n =>
  rw[evI_succ]at h
  simp only[hL]at h
  split at h
  ·split at h
   ·rename_i st hst
    split at h
    ·simp only[Option.some.injEq,Prod.mk.injEq]at h
     rw[←h.2]
     exact run_ro n (by simp [iRo,hro]) hst
    ·cases h
   ·cases h
  ·cases h
attribute [local irreducible] AKM CmpP Req OpP UnP ConvP RdP LdR StR MkR LenP AppR AppN CpyR RowP SnR Bds SlS CallP CalP FinP pw LdM GetM SetM PutM MkM AppM SnM FlP CallR
set_option maxHeartbeats 1000000
variable {L:Lib}
theorem cut_walk (N:NatGLib L) (l:List Nat) (s:Nat) (hD:Dig l) (hl:l.length≤1099511627776):CalP L 65 [.row 5 0 1 0 l.length] [(0,.row 5 0 1 0 l.length)] [(5,s,.rw 1 (l.map e32))] (fun r _=>r = .row 5 0 1 0 (dg (val l)).length):=by
 have hlen : ∀ n,n≤l.length→l.take n=dg (val l)→n=(dg (val l)).length:=fun n h1 h2=>by
  rw[←h2,List.length_take];omega
 refine CalP.walk 1000 N.nat_cut rfl rfl ?_
 (repeat' (refine AKM.x ?_;conv=>whnf))
 refine AKM.loop1 (fun n=>n) (fun (n:Nat)=>n≤l.length ∧ ∀ i,n≤i→i<l.length→l[i]? = some 0) (fun n=>[(3,.int .i64 n)]) (fun _=>[]) [] [] l.length (by (conv=>whnf);exact ⟨rfl,rfl,rfl⟩) ⟨Nat.le_refl _,fun i h1 h2=>by omega⟩ ?_
 intro n ⟨p1,p2⟩ ih
 rcases n with _|n
 ·(repeat' (first|(refine CmpP.go (fun hc => ?_) (fun hc => ?_)<;>first|(exfalso;omega)|(conv=>whnf))|(refine AKM.x ?_;conv=>whnf)))
  refine Bds.up 0 (by omega) (by omega) ?_
  (conv=>whnf)
  refine ⟨rfl,_,rfl,?_⟩
  rw[←hlen 0 p1 (cut_found hD p1 p2 (Or.inl rfl))]
  rfl
 ·have e1:((n+1:Nat):Int)-1=n:=by omega
  (repeat' (first|(refine CmpP.go (fun hc => ?_) (fun hc => ?_)<;>first|(exfalso;omega)|(conv=>whnf))|(refine Req.go ?_ ?_;omega;conv=>whnf)|(refine OpP.sub ?_ ?_;omega;conv=>whnf)|(refine LdR.digi (by assumption) ?_ (fun v hv hb => ?_);omega;conv=>whnf)|(refine AKM.x ?_;conv=>whnf)))
  ·rw[e1]
   exact AKM.back [] (by (conv=>whnf);exact ⟨rfl,rfl,rfl⟩) (ih n (by omega) ⟨by omega,fun i h1 h2=>by
    by_cases h:i=n
    ·subst h
     rw[e1,Int.toNat_natCast]at hv
     rw[hv];congr 1;omega
    ·exact p2 i (by omega) h2⟩)
  ·refine Bds.up (n+1) (by omega) (by omega) ?_
   (conv=>whnf)
   refine ⟨rfl,_,rfl,?_⟩
   rw[e1,Int.toNat_natCast]at hv
   rw[←hlen (n+1) p1 (cut_found hD p1 p2 (Or.inr ⟨_,hv,by omega⟩))]
   rfl
theorem cut_evI (N:NatGLib L) (l:List Nat) (s t:Nat) (own:Own) (hD:Dig l) (hl:l.length≤1099511627776) (hb:(own s).blk t=some ⟨1,l.map e32⟩) (ht:t<(own s).cnt):EvI L 65 [.row s t 1 0 l.length] own (.row s t 1 0 (dg (val l)).length) own:=by
 have hs:Sat (fun _ _=>(s,t)) own [(5,s,.rw 1 (l.map e32))]:=by
  have key : ∀ k u c,mref [(5,s,Cel.rw 1 (l.map e32))] k u=some c→k=5∧u=0∧c = .rw 1 (l.map e32):=fun k u c e=>by
   simp only[mref,mget]at e
   cases hk:Nat.beq k 5<;>simp only[hk,cond_true,cond_false]at e
   ·cases e
   ·cases u with
    | zero=>simp only[Option.some.injEq]at e;exact ⟨Nat.eq_of_beq_eq_true hk,rfl,e.symm⟩
    | succ u=>cases e
  refine ⟨fun k s' c e => ?_,fun k u c e => ?_,fun k u c e=>ht,fun k u k' u' c c' e e' _ => ?_⟩
  ·simp only[mget]at e
   cases hk:Nat.beq k 5<;>simp only[hk,cond_true,cond_false]at e
   ·cases e
   ·simp only[Option.some.injEq,Prod.mk.injEq]at e;exact e.1
  ·obtain ⟨_,_,rfl⟩:=key k u c e
   exact hb
  ·obtain ⟨rfl,rfl,_⟩:=key k u c e
   obtain ⟨rfl,rfl,_⟩:=key k' u' c' e'
   exact ⟨rfl,rfl⟩
 have hw:=cut_walk N l s hD hl
 unfold CalP at hw
 obtain ⟨r,own',σ',M',h1,h2,h3,rfl⟩:=hw _ own hs
 have ho:=evI_ro N.nat_cut (by decide +kernel) h1
 subst ho
 have h4:AV.row (σ' 5 0).1 (σ' 5 0).2 1 0 l.length=AV.row s t 1 0 l.length:=h3 0
 simp only[AV.row.injEq]at h4
 have h5:EvI L 65 [.row s t 1 0 l.length] own' (.row (σ' 5 0).1 (σ' 5 0).2 1 0 (dg (val l)).length) own':=h1
 rw[h4.1,h4.2.1]at h5
 exact h5
theorem CalP.cutR (N:NatGLib L) {l:List Nat} {tm:Tm} {M:Mem} {K:AV→Mem→Prop} {key s len:Nat} (hD:Dig l) (hl:l.length≤1099511627776) (hm:mget M key=some (s,.rw 1 (l.map e32))) (hlen:len=l.length) (hk:K (.row key 0 1 0 (dg (val l)).length) M):CalP L 65 [.row key 0 1 0 len] tm M K:=by
 subst hlen
 unfold CalP
 intro σ own hs
 have hsite:=hs.site _ _ _ hm
 have href:mref M key 0=some (.rw 1 (l.map e32)):=by simp only[mref,hm]
 have hb:=hs.blk _ _ _ href
 have ht:=hs.old _ _ _ href
 refine ⟨.row key 0 1 0 (dg (val l)).length,own,σ,M,?_,hs,fun _=>rfl,hk⟩
 exact cut_evI N l (σ key 0).1 (σ key 0).2 own hD hl hb ht
end Go.Eng

namespace Go.Eng
open F
attribute [local irreducible] AKM CmpP Req OpP UnP ConvP RdP LdR StR MkR LenP AppR AppN CpyR RowP SnR Bds SlS CallP CalP FinP pw LdM GetM SetM PutM MkM AppM SnM FlP CallR
set_option maxHeartbeats 4000000
variable {L:Lib}
abbrev dvTM (v:List Nat) (j m s xl:Nat):Tm:=[(102,AV.sl false (List.map e32 v)),(101,AV.row 71012 0 1 j (v.length+1)),
           (100,AV.int IntKind.i64 (↑j + ↑v.length+1)),(99,AV.int IntKind.i64 (↑j + ↑v.length)),
           (98,AV.int IntKind.i64 ↑v.length),(97,AV.int IntKind.i64 ↑j),(96,AV.int IntKind.i64 ↑j),
           (95,AV.row 71012 0 1 0 (xl+1)),(94,AV.int IntKind.i64 ↑j),(93,AV.row 28 0 1 0 m),
           (90,AV.bool true),(14,AV.int IntKind.i64 ↑j),(13,AV.sl false (List.map e32 v)),
           (12,AV.row 71012 0 1 0 (xl+1)),(11,AV.int IntKind.u64 ↑s),(7,AV.row 28 0 1 0 m),
           (6,AV.int IntKind.i64 ↑v.length)]
abbrev dvK2:List It:=[It.lp nat_digit.l2,It.blk 2,It.code
      (((ACode.ops nat_digit.r18 false).dr [9,10,84,85,86,87,118,119,120,121,122,123,124,125,126]
         []).seq
       (((ACode.ops nat_digit.r19 false).dr [127,128,129,130,131] []).seq
        ((((ACode.ops nat_digit.r20 false).dr [15,132,133] []).seq
           (ACode.cond 134
            (((ACode.ops nat_digit.r21 false).dr [0,1,5,7,134,135,136] []).seq ACode.ret)
            ACode.skip)).seq
         (((ACode.ops nat_digit.r22 false).dr [134] []).seq
          ((((ACode.ops nat_digit.r23 false).dr [1] []).seq (ACode.block 4 nat_digit.l3.loop)).seq
           (((ACode.ops nat_digit.r30 false).dr
              [0,5,9,137,138,139,140,162,163,164,165,166,167,168,169] []).seq
            (((ACode.ops nat_digit.r31 false).dr [7,170,171,172] []).seq ACode.ret)))))))]
section
variable {A W C w v:List Nat} {j m s xl q:Nat} {K:AV→Mem→Prop}
theorem digit_rest (hA:A.length=j) (hW:W.length=v.length+1) (D2:Dig W) (hVD:Dig v) (hv2l:2≤v.length) (hvL:v.length≤549755813888) (hV0:0<val v)
  (r1:q<4294967296) (r2:val W/val v≤q) (r3:q≤val W/val v+1)
  (hk : ∀ (W':List Nat) (o':List (List AV)) (q':Nat),W'.length=v.length+1→Dig W'→val W'=val W%val v→q'=val W/val v→K (.int .u32 (q':Int)) [(71012,71012,.rw 1 ((A++W'++C).map e32)),(28,28,.rw 1 (w.map e32)),(71012,71012,.rw 1 o')])
  (hk2 : ∀ (W':List Nat) (o':List (List AV)) (q':Nat),W'.length=v.length+1→Dig W'→val W'=val W%val v→q'=val W/val v→K (.int .u32 (q':Int)) [(71012,71012,.rw 1 ((A++W'++C).map e32)),(71012,71012,.rw 1 o'),(28,28,.rw 1 (w.map e32))]) :
  AKM L dvK2 ([(86,.int .i64 0),(85,.int .i64 v.length),(84,.sl false (v.map e32)),(10,.int .u64 0),(9,.int .u64 0),(7,.int .u64 (q:Int)),(5,.int .i64 v.length),(0,AV.row 71012 0 1 j (v.length+1)),(1,AV.sl false (List.map e32 v))]++shT 1000 (dvTM v j m s xl))
   [(71012,71012,Cel.rw 1 (List.map e32 (A++W++C))),(28,28,Cel.rw 1 (List.map e32 w))] (RetI 1000 nat_digit (dvTM v j m s xl) K):=by
 refine AKM.loop4 (fun i _ _ _=>v.length-i) (fun (i:Nat) (Z:List Nat) (c b:Nat)=>i≤v.length∧Z.length=v.length+1∧Dig Z∧c<4294967296∧b≤1∧Z.drop i=W.drop i∧val (Z.take i)+q*val (v.take i)=val (W.take i)+4294967296^i*(c+b)) (fun i Z c b=>[(86,.int .i64 i),(10,.int .u64 (b:Int)),(9,.int .u64 (c:Int))]) (fun i Z c b=>[(71012,71012,.rw 1 ((A++Z++C).map e32))]) [] [] 0 W 0 0 (by (conv=>whnf);exact ⟨rfl,rfl,rfl⟩) ⟨by omega,hW,D2,by omega,by omega,rfl,by simp [val]⟩ ?_
 intro i Z c b ⟨p1,p2,p3,p4,p5,p6,p7⟩ ih
 by_cases hi:i<v.length
 ·obtain ⟨d,hd⟩ : ∃ d,v[i]? = some d:=⟨_,List.getElem?_eq_getElem hi⟩
  obtain ⟨u,hu⟩ : ∃ u,Z[i]? = some u:=⟨_,List.getElem?_eq_getElem (by omega)⟩
  have hdb:=hVD.at hd
  have hub:=p3.at hu
  obtain ⟨pr,hpr⟩ : ∃ pr,pr=q*d+c:=⟨_,rfl⟩
  obtain ⟨m1,m2,m3⟩:=ms_carry r1 hdb p4 hpr
  have hWi:W[i]? = some u:=by
   have e1:(Z.drop i)[0]? = (W.drop i)[0]? := by rw[p6]
   simpa [hu] using e1.symm
  (repeat' (first|(refine CmpP.go (fun hc => ?_) (fun hc => ?_)<;>first|(exfalso;omega)|(conv=>whnf))|(refine Req.go ?_ ?_;omega;conv=>whnf)|(refine OpP.nadd ?_ ?_;omega;conv=>whnf)|(refine OpP.nmul ?_ ?_;omega;conv=>whnf)|(refine OpP.nshr32 ?_;conv=>whnf)|(refine ConvP.u64 ?_ ?_;omega;conv=>whnf)|(refine RdP.at (by assumption) ?_ rfl ?_;omega;conv=>whnf)|(refine AKM.x ?_;conv=>whnf)))
  rw[←hpr]
  refine LdR.winat i hu (by omega) ?_
  (conv=>whnf)
  (repeat' (first|(refine Req.go ?_ ?_;omega;conv=>whnf)|(refine OpP.nsubw ?_ ?_;omega;conv=>whnf)|(refine ConvP.u64 ?_ ?_;omega;conv=>whnf)|(refine ConvP.n32 ?_;conv=>whnf)))
  obtain ⟨s1,s2⟩:=sub_step hub (show pr%4294967296<4294967296 by omega) p5
  have hst:=ms_step p7 hpr rfl hub p5
  generalize w64s (w64s u (pr%4294967296)) b=t at *
  refine StR.win i (by omega) (by omega) ?_
  (conv=>whnf)
  (repeat' (first|(refine OpP.add ?_ ?_;omega;conv=>whnf)|(refine OpP.nshr63 ?_;conv=>whnf)))
  refine AKM.back [] (by (conv=>whnf);exact ⟨rfl,rfl,rfl⟩) (ih (i+1) _ _ _ (by omega) ⟨by omega,by simpa using p2,p3.set _ (by omega),m1,s2,?_,?_⟩)
  ·rw[List.drop_set_of_lt (by omega)]
   have e1:(Z.drop i).drop 1=(W.drop i).drop 1:=by rw[p6]
   simpa using e1
  ·rw[val_set_take (by omega),val_take_succ hd,val_take_succ hWi,Nat.pow_succ]
   exact hst
 ·obtain rfl:i=v.length:=by omega
  clear ih
  obtain ⟨u,hu⟩ : ∃ u,Z[v.length]? = some u:=⟨_,List.getElem?_eq_getElem (by omega)⟩
  have hub:=p3.at hu
  have hWi:W[v.length]? = some u:=by
   have e1:(Z.drop v.length)[0]? = (W.drop v.length)[0]? := by rw[p6]
   simpa [hu] using e1.symm
  rw[val_take_all (Nat.le_refl v.length)]at p7
  obtain ⟨s1,s2⟩:=sub_step hub p4 p5
  have hst:=ms_last p7 rfl hub p4 p5
  have eW:val W=val (W.take v.length)+4294967296^v.length*u:=by
   rw[←val_take_succ hWi,val_take_all (by omega)]
  rw[←eW,←val_set_take (show v.length<Z.length by omega),val_take_all (by simp;omega)]at hst
  (repeat' (first|(refine CmpP.go (fun hc => ?_) (fun hc => ?_)<;>first|(exfalso;omega)|(conv=>whnf))|(refine Req.go ?_ ?_;omega;conv=>whnf)|(refine AKM.x ?_;conv=>whnf)))
  refine LdR.winat v.length hu (by omega) ?_
  (conv=>whnf)
  (repeat' (first|(refine Req.go ?_ ?_;omega;conv=>whnf)|(refine OpP.nsubw ?_ ?_;omega;conv=>whnf)|(refine ConvP.u64 ?_ ?_;omega;conv=>whnf)|(refine ConvP.n32 ?_;conv=>whnf)))
  generalize w64s (w64s u c) b=t at *
  refine StR.win v.length (by omega) (by omega) ?_
  (conv=>whnf)
  (repeat' (first|(refine CmpP.go (fun hc => ?_) (fun hc => ?_)<;>first|(exfalso;omega)|(conv=>whnf))|(refine OpP.nshr63 ?_;conv=>whnf)|(refine ConvP.n32i ?_ ?_;omega;conv=>whnf)|(refine LenP.go ?_;conv=>whnf)))
  ·have ht0:t/9223372036854775808=0:=by omega
   rw[ht0,Nat.mul_zero,Nat.add_zero]at hst
   obtain ⟨y1,y2⟩:=digit_ok hV0 r2 hst
   exact ⟨rfl,_,rfl,hk _ _ _ (by simpa using p2) (p3.set _ (by omega)) y2 y1⟩
  ·have ht1:t/9223372036854775808=1:=by omega
   rw[ht1,Nat.mul_one]at hst
   have hXD:Dig (Z.set v.length (t%4294967296)):=p3.set _ (by omega)
   have hXl:(Z.set v.length (t%4294967296)).length=v.length+1:=by simpa using p2
   clear p7 p6 p4 p5 s1 s2 eW ht1 hu hWi hub p1 p2 p3
   generalize Z.set v.length (t%4294967296)=X at *
   have hU':=val_lt hXD
   rw[hXl,Nat.pow_succ]at hU'
   obtain ⟨y1,y2,y3⟩:=digit_back hV0 r3 hU' hst
   have hRV:val W%val v<val v:=Nat.mod_lt _ hV0
   have hVl:=val_lt hVD
   obtain ⟨xw,hxw⟩ : ∃ xw,X[v.length]? = some xw:=⟨_,List.getElem?_eq_getElem (by omega)⟩
   have eX:val X=val (X.take v.length)+4294967296^v.length*xw:=by
    rw[←val_take_succ hxw,val_take_all (by omega)]
   refine AKM.loop3 (fun i _ _=>v.length-i) (fun (i:Nat) (Z:List Nat) (c:Nat)=>i≤v.length∧Z.length=v.length+1∧Dig Z∧c≤1∧Z.drop i=X.drop i∧val (Z.take i)+4294967296^i*c=val (X.take i)+val (v.take i)) (fun i Z c=>[(139,.int .i64 i),(9,.int .u64 (c:Int))]) (fun i Z c=>[(71012,71012,.rw 1 ((A++Z++C).map e32))]) [] [] 0 X 0 (by (conv=>whnf);exact ⟨rfl,rfl,rfl⟩) ⟨by omega,hXl,hXD,by omega,rfl,by simp [val]⟩ ?_
   intro i Z c ⟨p1,p2,p3,p4,p6,p7⟩ ih
   by_cases hi:i<v.length
   ·obtain ⟨d,hd⟩ : ∃ d,v[i]? = some d:=⟨_,List.getElem?_eq_getElem hi⟩
    obtain ⟨u,hu⟩ : ∃ u,Z[i]? = some u:=⟨_,List.getElem?_eq_getElem (by omega)⟩
    have hdb:=hVD.at hd
    have hub:=p3.at hu
    have hXi:X[i]? = some u:=by
     have e1:(Z.drop i)[0]? = (X.drop i)[0]? := by rw[p6]
     simpa [hu] using e1.symm
    have hab:=ab_step (d:=d) (w:=u) p7 rfl
    (repeat' (first|(refine CmpP.go (fun hc => ?_) (fun hc => ?_)<;>first|(exfalso;omega)|(conv=>whnf))|(refine Req.go ?_ ?_;omega;conv=>whnf)|(refine RdP.at (by assumption) ?_ rfl ?_;omega;conv=>whnf)|(refine AKM.x ?_;conv=>whnf)))
    refine LdR.winat i hu (by omega) ?_
    (conv=>whnf)
    (repeat' (first|(refine Req.go ?_ ?_;omega;conv=>whnf)|(refine OpP.nadd ?_ ?_;omega;conv=>whnf)|(refine ConvP.u64 ?_ ?_;omega;conv=>whnf)|(refine ConvP.n32 ?_;conv=>whnf)))
    generalize ht2:u+d+c=t2 at *
    refine StR.win i (by omega) (by omega) ?_
    (conv=>whnf)
    (repeat' (first|(refine OpP.add ?_ ?_;omega;conv=>whnf)|(refine OpP.nshr32 ?_;conv=>whnf)))
    refine AKM.back [] (by (conv=>whnf);exact ⟨rfl,rfl,rfl⟩) (ih (i+1) _ _ (by omega) ⟨by omega,by simpa using p2,p3.set _ (by omega),by omega,?_,?_⟩)
    ·rw[List.drop_set_of_lt (by omega)]
     have e1:(Z.drop i).drop 1=(X.drop i).drop 1:=by rw[p6]
     simpa using e1
    ·rw[val_set_take (by omega),val_take_succ hd,val_take_succ hXi,Nat.pow_succ]
     exact hab
   ·obtain rfl:i=v.length:=by omega
    clear ih
    obtain ⟨u,hu⟩ : ∃ u,Z[v.length]? = some u:=⟨_,List.getElem?_eq_getElem (by omega)⟩
    have hub:=p3.at hu
    have hXi:X[v.length]? = some u:=by
     have e1:(Z.drop v.length)[0]? = (X.drop v.length)[0]? := by rw[p6]
     simpa [hu] using e1.symm
    rw[hXi]at hxw
    obtain rfl:u=xw:=by simpa using hxw
    rw[val_take_all (Nat.le_refl v.length)]at p7
    have hZl:=val_lt (p3.take v.length)
    rw[List.length_take,Nat.min_eq_left (by omega)]at hZl
    rw[eX]at y3
    have hend:=ab_last p7 y3 (by omega) hZl
    rw[←val_set_take (show v.length<Z.length by omega),val_take_all (by simp;omega)]at hend
    (repeat' (first|(refine CmpP.go (fun hc => ?_) (fun hc => ?_)<;>first|(exfalso;omega)|(conv=>whnf))|(refine Req.go ?_ ?_;omega;conv=>whnf)|(refine AKM.x ?_;conv=>whnf)))
    refine LdR.winat v.length hu (by omega) ?_
    (conv=>whnf)
    (repeat' (first|(refine Req.go ?_ ?_;omega;conv=>whnf)|(refine OpP.nadd4 ?_;conv=>whnf)|(refine ConvP.n32i ?_ ?_;omega;conv=>whnf)))
    refine StR.win v.length (by omega) (by omega) ?_
    (conv=>whnf)
    (repeat' (first|(refine OpP.nsub ?_ ?_ ?_;omega;omega;conv=>whnf)|(refine ConvP.n32i ?_ ?_;omega;conv=>whnf)))
    exact ⟨rfl,_,rfl,hk2 _ _ _ (by simpa using p2) (p3.set _ (by omega)) hend y1⟩
theorem digit_walk (N:NatGLib L) (hA:A.length=j) (hW:W.length=v.length+1) (D2:Dig W) (hVD:Dig v) (hv2l:2≤v.length) (hvL:v.length≤549755813888) (hV0:0<val v)
  (n2:4294967296^(v.length-1)*2147483648≤val v) (g2:val W<4294967296*val v)
  (hk : ∀ (W':List Nat) (o':List (List AV)) (q':Nat),W'.length=v.length+1→Dig W'→val W'=val W%val v→q'=val W/val v→K (.int .u32 (q':Int)) [(71012,71012,.rw 1 ((A++W'++C).map e32)),(28,28,.rw 1 (w.map e32)),(71012,71012,.rw 1 o')])
  (hk2 : ∀ (W':List Nat) (o':List (List AV)) (q':Nat),W'.length=v.length+1→Dig W'→val W'=val W%val v→q'=val W/val v→K (.int .u32 (q':Int)) [(71012,71012,.rw 1 ((A++W'++C).map e32)),(71012,71012,.rw 1 o'),(28,28,.rw 1 (w.map e32))]) :
  CalP L 73 [AV.row 71012 0 1 j (v.length+1),AV.sl false (List.map e32 v)] (dvTM v j m s xl) [(71012,71012,Cel.rw 1 (List.map e32 (A++W++C))),(28,28,Cel.rw 1 (List.map e32 w))] K:=by
 obtain ⟨UL,a1,a2⟩:=val_top3 D2 (n:=v.length+1) (by omega) (by omega)
 obtain ⟨VL,b5,b6⟩:=val_top2 hVD (n:=v.length) hv2l (by omega)
 obtain ⟨u0,w0⟩ : ∃ d,W[v.length]? = some d:=⟨_,List.getElem?_eq_getElem (by omega)⟩
 obtain ⟨u1,w1⟩ : ∃ d,W[v.length-1]? = some d:=⟨_,List.getElem?_eq_getElem (by omega)⟩
 obtain ⟨u2,w2⟩ : ∃ d,W[v.length-2]? = some d:=⟨_,List.getElem?_eq_getElem (by omega)⟩
 obtain ⟨f1,x1⟩ : ∃ d,v[v.length-1]? = some d:=⟨_,List.getElem?_eq_getElem (by omega)⟩
 obtain ⟨f2,x2⟩ : ∃ d,v[v.length-2]? = some d:=⟨_,List.getElem?_eq_getElem (by omega)⟩
 rw[show v.length+1-3=v.length-2 by omega,show v.length+1-2=v.length-1 by omega,show v.length+1-1=v.length by omega,getD_is w0,getD_is w1,getD_is w2]at a2
 rw[show v.length+1-3=v.length-2 by omega]at a1
 rw[getD_is x1,getD_is x2]at b6
 have hf1:=top_ge hVD (k:=v.length-1) (by omega) n2 x1
 have k0:=D2.at w0
 have k1:=D2.at w1
 have k2:=D2.at w2
 have k3:=hVD.at x1
 have k4:=hVD.at x2
 have z1:v[((v.length:Int)-1).toNat]? = some f1:=by rw[show ((v.length:Int)-1).toNat=v.length-1 by omega];exact x1
 have z2:v[((v.length:Int)-2).toNat]? = some f2:=by rw[show ((v.length:Int)-2).toNat=v.length-2 by omega];exact x2
 refine CalP.walk 1000 N.nat_digit rfl rfl ?_
 (repeat' (first|(refine Req.go ?_ ?_;omega;conv=>whnf)|(refine LenP.go ?_;conv=>whnf)|(refine AKM.x ?_;conv=>whnf)))
 refine LdR.winat v.length w0 (by omega) ?_
 (conv=>whnf)
 (repeat' (first|(refine Req.go ?_ ?_;omega;conv=>whnf)|(refine OpP.sub ?_ ?_;omega;conv=>whnf)|(refine OpP.nshl32 ?_ ?_;omega;conv=>whnf)|(refine ConvP.u64 ?_ ?_;omega;conv=>whnf)))
 refine LdR.winat (v.length-1) w1 (by omega) ?_
 (conv=>whnf)
 refine ConvP.n64 (by omega) ?_
 (conv=>whnf)
 refine OpP.nor (by omega) ?_
 (conv=>whnf)
 generalize htop:u0*4294967296+u1=top at *
 have htb:top≤18446744073709551615:=by omega
 have hU:val W=UL+4294967296^(v.length-2)*(u2+4294967296*top):=by rw[a2,show u1+4294967296*u0=top by omega]
 (repeat' (first|(refine OpP.sub ?_ ?_;omega;conv=>whnf)|(refine OpP.nrem ?_ ?_;omega;conv=>whnf)|(refine OpP.nquo ?_ ?_ ?_;omega;omega;conv=>whnf)|(refine ConvP.u64 ?_ ?_;omega;conv=>whnf)|(refine RdP.at (by assumption) ?_ rfl ?_;omega;conv=>whnf)))
 refine AKM.loop2 (fun q _=>q) (fun (q r:Nat)=>Gs (val W) (val v) f1 f2 u2 top q r) (fun q r=>[(7,.int .u64 (q:Int)),(8,.int .u64 (r:Int))]) (fun _ _=>[]) [] [] (top/f1) (top%f1) (by (conv=>whnf);exact ⟨rfl,rfl,rfl⟩) (Gs.start hU b6 a1 k2 hV0 (by omega) k3) ?_
 intro q r g ih2
 have hqt:q≤top:=by
  have h3:=g.hq
  have h4:q*1≤q*f1:=Nat.mul_le_mul_left q (by omega)
  omega
 have hr:=g.hr
 have hge:=g.ge
 by_cases hb:4294967296≤q
 ·obtain ⟨y1,y2,y3⟩:=g.next hU b6 a1 hV0 g2 (Or.inl hb)
  (repeat' (first|(refine CmpP.go (fun hc => ?_) (fun hc => ?_)<;>first|(exfalso;omega)|(conv=>whnf))|(refine OpP.sub ?_ ?_;omega;conv=>whnf)|(refine OpP.nadd ?_ ?_;omega;conv=>whnf)|(refine OpP.nsub ?_ ?_ ?_;omega;omega;conv=>whnf)|(refine ConvP.u64 ?_ ?_;omega;conv=>whnf)|(refine LenP.go ?_;conv=>whnf)|(refine RdP.at (by assumption) ?_ rfl ?_;omega;conv=>whnf)|(refine AKM.x ?_;conv=>whnf)))
  ·obtain ⟨t1,t2⟩:=guess_stop hU b6 b5 hf1 k4 g2 y2 (Or.inr (by omega))
   exact AKM.back [] (by (conv=>whnf);exact ⟨rfl,rfl,rfl⟩) (digit_rest (w:=w) (C:=C) hA hW D2 hVD hv2l hvL hV0 t1 y3 t2 hk hk2)
  ·exact AKM.back [] (by (conv=>whnf);exact ⟨rfl,rfl,rfl⟩) (ih2 (q-1) (r+f1) (by omega) ⟨y2,by omega,y3⟩)
 ·have hmq:=mul_le_dig (show q<4294967296 by omega) k4
  by_cases hb2:r*4294967296+u2<q*f2
  ·obtain ⟨y1,y2,y3⟩:=g.next hU b6 a1 hV0 g2 (Or.inr hb2)
   (repeat' (first|(refine CmpP.go (fun hc => ?_) (fun hc => ?_)<;>first|(exfalso;omega)|(conv=>whnf))|(refine Req.go ?_ ?_;omega;conv=>whnf)|(refine OpP.sub ?_ ?_;omega;conv=>whnf)|(refine OpP.nmul ?_ ?_;omega;conv=>whnf)|(refine OpP.nshl32 ?_ ?_;omega;conv=>whnf)|(refine ConvP.u64 ?_ ?_;omega;conv=>whnf)|(refine RdP.at (by assumption) ?_ rfl ?_;omega;conv=>whnf)|(refine AKM.x ?_;conv=>whnf)))
   refine LdR.winat (v.length-2) w2 (by omega) ?_
   (conv=>whnf)
   (repeat' (first|(refine CmpP.go (fun hc => ?_) (fun hc => ?_)<;>first|(exfalso;omega)|(conv=>whnf))|(refine OpP.sub ?_ ?_;omega;conv=>whnf)|(refine OpP.nadd ?_ ?_;omega;conv=>whnf)|(refine OpP.nor ?_ ?_;omega;conv=>whnf)|(refine OpP.nsub ?_ ?_ ?_;omega;omega;conv=>whnf)|(refine ConvP.u64 ?_ ?_;omega;conv=>whnf)|(refine LenP.go ?_;conv=>whnf)|(refine RdP.at (by assumption) ?_ rfl ?_;omega;conv=>whnf)))
   ·obtain ⟨t1,t2⟩:=guess_stop hU b6 b5 hf1 k4 g2 y2 (Or.inr (by omega))
    exact AKM.back [] (by (conv=>whnf);exact ⟨rfl,rfl,rfl⟩) (digit_rest (w:=w) (C:=C) hA hW D2 hVD hv2l hvL hV0 t1 y3 t2 hk hk2)
   ·exact AKM.back [] (by (conv=>whnf);exact ⟨rfl,rfl,rfl⟩) (ih2 (q-1) (r+f1) (by omega) ⟨y2,by omega,y3⟩)
  ·obtain ⟨t1,t2⟩:=guess_stop hU b6 b5 hf1 k4 g2 g.hq (Or.inl ⟨by omega,by omega⟩)
   (repeat' (first|(refine CmpP.go (fun hc => ?_) (fun hc => ?_)<;>first|(exfalso;omega)|(conv=>whnf))|(refine Req.go ?_ ?_;omega;conv=>whnf)|(refine OpP.sub ?_ ?_;omega;conv=>whnf)|(refine OpP.nmul ?_ ?_;omega;conv=>whnf)|(refine OpP.nshl32 ?_ ?_;omega;conv=>whnf)|(refine ConvP.u64 ?_ ?_;omega;conv=>whnf)|(refine RdP.at (by assumption) ?_ rfl ?_;omega;conv=>whnf)|(refine AKM.x ?_;conv=>whnf)))
   refine LdR.winat (v.length-2) w2 (by omega) ?_
   (conv=>whnf)
   (repeat' (first|(refine CmpP.go (fun hc => ?_) (fun hc => ?_)<;>first|(exfalso;omega)|(conv=>whnf))|(refine OpP.nor ?_ ?_;omega;conv=>whnf)|(refine ConvP.u64 ?_ ?_;omega;conv=>whnf)|(refine LenP.go ?_;conv=>whnf)))
   exact AKM.back [] (by (conv=>whnf);exact ⟨rfl,rfl,rfl⟩) (digit_rest (w:=w) (C:=C) hA hW D2 hVD hv2l hvL hV0 t1 hge t2 hk hk2)
end
end Go.Eng

namespace Go.Eng
open F
attribute [local irreducible] AKM CmpP Req OpP UnP ConvP RdP LdR StR MkR LenP AppR AppN CpyR RowP SnR Bds SlS CallP CalP FinP pw LdM GetM SetM PutM MkM AppM SnM FlP CallR
set_option maxHeartbeats 4000000
variable {L:Lib}
theorem small_step {V R y d t Q:Nat} (h:Q*y+R=V) (ht:t=R*4294967296+d):(t/y+4294967296*Q)*y+t%y=d+4294967296*V:=by
 have:=Nat.div_add_mod t y
 rw[←h,Nat.add_mul]
 have e:t/y*y=y*(t/y):=Nat.mul_comm _ _
 grind
theorem cl_pair (a b:List Nat):Clean (.tup [.sl false (a.map e32),.sl false (b.map e32)]):=by
 simp only[Clean,CleanL,and_true,true_and]
 exact ⟨cl_dig a,cl_dig b⟩
set_option maxHeartbeats 4000000 in
theorem ev_nat_divide (N:NatGLib L) (X Y:Nat) (q1 q2:Bool) (hY:Y≠0) (lx:(dg X).length≤549755813888) (ly:(dg Y).length≤549755813888):Ev L 74 [.sl q1 ((dg X).map e32),.sl q2 ((dg Y).map e32)] (.tup [.sl false ((dg (X/Y)).map e32),.sl false ((dg (X%Y)).map e32)]):=by
 have hcmp:=fun q q'=>ev_nat_Compare N (dg X) (dg Y) q q' (dig_dg X) (dig_dg Y) (by omega) (by omega)
 rw[val_dg,val_dg]at hcmp
 have d1:=dig_dg X
 have d2:=dig_dg Y
 have v1:=val_dg X
 have v2:=val_dg Y
 have hy1:=dg_len_pos hY
 refine Ev.x N.nat_divide rfl rfl ?_
 by_cases hlt:X<Y
 ·have hn:cmpS X Y = -1:=(cmpS_lt (by omega)).symm
  rw[hn]at hcmp
  (repeat' (first|(refine CmpP.go (fun hc => ?_) (fun hc => ?_)<;>first|(exfalso;omega)|(conv=>whnf))|(refine AKM.x ?_;conv=>whnf)|(refine CallP.go (hcmp _ _) ?_;conv=>whnf)|(refine CallP.go (ev_Clone N (dg X) _ (by omega)) ?_;conv=>whnf)))
  refine FinP.go ?_ (cl_pair _ _)
  rw[Nat.div_eq_of_lt hlt,Nat.mod_eq_of_lt hlt,dg_zero];rfl
 have hge:0≤cmpS X Y:=by unfold cmpS;split<;>(try split)<;>omega
 have hll:=dg_len_mono (show Y≤X by omega)
 generalize cmpS X Y=cm at *
 by_cases h1:(dg Y).length=1
 ·-- one digit
  obtain ⟨y0,hy0⟩ : ∃ y0,dg Y=[y0]:=List.length_eq_one_iff.1 h1
  have hyv:Y=y0:=by rw[←v2,hy0];simp [val]
  subst hyv
  have hyb:Y<4294967296:=d2 Y (by rw[hy0];simp)
  have hyg:(dg Y)[0]? = some Y:=by rw[hy0];rfl
  clear hy0 v2
  generalize dg Y=y at *
  generalize hx:dg X=x at *
  (repeat' (first|(refine CmpP.go (fun hc => ?_) (fun hc => ?_)<;>first|(exfalso;omega)|(conv=>whnf))|(refine OpP.add ?_ ?_;omega;conv=>whnf)|(refine OpP.sub ?_ ?_;omega;conv=>whnf)|(refine LenP.go ?_;conv=>whnf)|(refine AKM.x ?_;conv=>whnf)|(refine CallP.go (hcmp _ _) ?_;conv=>whnf)))
  refine MkR.go (enc:=e32) 0 x.length rfl (by omega) (by omega) ?_
  (conv=>whnf)
  (repeat' (first|(refine CmpP.go (fun hc => ?_) (fun hc => ?_)<;>first|(exfalso;omega)|(conv=>whnf))|(refine OpP.sub ?_ ?_;omega;conv=>whnf)|(refine LenP.go ?_;conv=>whnf)))
  refine AKM.loop3 (fun n _ _=>n) (fun (n:Nat) (o:List Nat) (r:Nat)=>n≤x.length∧o.length=x.length∧Dig o∧r<Y∧val (o.drop n)*Y+r=val (x.drop n)) (fun n o r=>[(8,.int .u64 (r:Int)),(9,.int .i64 ((n:Int)-1))]) (fun n o r=>[(28,28,.rw 1 (o.map e32))]) [] [] x.length (List.replicate x.length 0) 0 (by (conv=>whnf);exact ⟨rfl,rfl,rfl⟩) ⟨by omega,by simp,dig_zeros _,by omega,by rw[List.drop_of_length_le (Nat.le_refl _),List.drop_of_length_le (by simp)];simp [val]⟩ ?_
  intro n o r ⟨p1,p2,p3,p4,p5⟩ ih
  rcases n with _|n
  ·rw[List.drop_zero,List.drop_zero]at p5
   have hq:X/Y=val o∧X%Y=r:=by
    rw[←v1,←p5]
    have e1:(val o*Y+r)/Y=val o:=by
     rw[Nat.mul_comm,Nat.mul_add_div (by omega),Nat.div_eq_of_lt p4,Nat.add_zero]
    have e2:(val o*Y+r)%Y=r:=by
     rw[Nat.mul_comm,Nat.mul_add_mod,Nat.mod_eq_of_lt p4]
    exact ⟨e1,e2⟩
   rw[hq.1,hq.2,←p2]
   clear ih hq p5
   have hl1:=dg_len_val p3
   have hr1:Dig [r]:=dig_one (by omega)
   have hl2:=dg_len_val hr1
   have hv1:val [r]=r:=by simp [val]
   have hl3:[r].length=1:=rfl
   (repeat' (first|(refine CmpP.go (fun hc => ?_) (fun hc => ?_)<;>first|(exfalso;omega)|(conv=>whnf))|(refine ConvP.n32i ?_ ?_;omega;conv=>whnf)|(refine AKM.x ?_;conv=>whnf)|(refine CalP.cutR N (by assumption) (by omega) rfl (by first|rfl|omega|assumption) ?_;conv=>whnf)))
   refine SnR.part (enc:=e32) (fun _=>rfl) (by omega) ?_
   (conv=>whnf)
   refine SnR.part (enc:=e32) (l:=[r]) (fun _=>rfl) (by omega) ?_
   (conv=>whnf)
   refine FinP.go ?_ (cl_pair _ _)
   rw[List.drop_zero,List.drop_zero,take_dg p3,take_dg hr1,hv1]
  ·have e1:((n+1:Nat):Int)-1=n:=by omega
   rw[e1]
   obtain ⟨d,hd⟩ : ∃ d,x[n]? = some d:=⟨_,List.getElem?_eq_getElem (by omega)⟩
   have hdb:=d1.at hd
   have hYb:Y<4294967296:=hyb
   have hR:r*4294967296+d<Y*4294967296:=by omega
   have hq0:(r*4294967296+d)/Y<4294967296:=(Nat.div_lt_iff_lt_mul (by omega)).2 (by omega)
   (repeat' (first|(refine CmpP.go (fun hc => ?_) (fun hc => ?_)<;>first|(exfalso;omega)|(conv=>whnf))|(refine Req.go ?_ ?_;omega;conv=>whnf)|(refine OpP.nshl32 ?_ ?_;omega;conv=>whnf)|(refine OpP.nor ?_ ?_;omega;conv=>whnf)|(refine OpP.nquo ?_ ?_ ?_;omega;omega;conv=>whnf)|(refine ConvP.u64 ?_ ?_;omega;conv=>whnf)|(refine ConvP.n32i ?_ ?_;omega;conv=>whnf)|(refine RdP.at (by assumption) ?_ rfl ?_;omega;conv=>whnf)|(refine AKM.x ?_;conv=>whnf)))
   obtain ⟨t,ht⟩ : ∃ t,t=r*4294967296+d:=⟨_,rfl⟩
   rw[←ht]at hR hq0 ⊢
   have hm:t%Y<Y:=Nat.mod_lt _ (by omega)
   have hst:=small_step p5 ht
   rw[←val_getD_drop hd]at hst
   clear ht
   skip
   refine StR.dig (by omega) ?_
   (conv=>whnf)
   (repeat' (first|(refine OpP.sub ?_ ?_;omega;conv=>whnf)|(refine OpP.nrem ?_ ?_;omega;conv=>whnf)|(refine ConvP.u64 ?_ ?_;omega;conv=>whnf)|(refine RdP.at (by assumption) ?_ rfl ?_;omega;conv=>whnf)))
   generalize t/Y=tq at *
   generalize t%Y=tr at *
   refine AKM.back [] (by (conv=>whnf);exact ⟨rfl,rfl,rfl⟩) (ih n _ _ (by omega) ⟨by omega,by simpa using p2,p3.set _ (by omega),hm,?_⟩)
   rw[val_getD_drop (l:=o.set n tq) (d:=tq) (by rw[List.getElem?_set_self (by omega)]),List.drop_set_of_lt (by omega)]
   exact hst
 ·-- two digits or more
  have hn2:2≤(dg Y).length:=by omega
  obtain ⟨yt,hyt,hyt0⟩:=dg_top hY
  have hytb:=d2.at hyt
  obtain ⟨b1,b2,b3,b4⟩:=lz_top hyt0 hytb
  have hlz:=ev_LZ32 N yt hytb
  generalize hs:32-blen yt=s at *
  have hs31:s≤31:=by omega
  generalize dg Y=y at *
  generalize hx:dg X=x at *
  have e1:((y.length:Int)-1).toNat=y.length-1:=by omega
  rw[←e1]at hyt
  obtain ⟨rv,hrv,v,hV,hvl,hrve⟩:=ev_nat_lift N y q2 s y.length d2 hs31 (by omega) (by omega)
  subst hrve
  (repeat' (first|(refine CmpP.go (fun hc => ?_) (fun hc => ?_)<;>first|(exfalso;omega)|(conv=>whnf))|(refine OpP.add ?_ ?_;omega;conv=>whnf)|(refine OpP.sub ?_ ?_;omega;conv=>whnf)|(refine LenP.go ?_;conv=>whnf)|(refine AKM.x ?_;conv=>whnf)|(refine CallP.go (hcmp _ _) ?_;conv=>whnf)))
  refine MkR.go (enc:=e32) 0 (x.length-y.length+1) rfl (by omega) (by omega) ?_
  (conv=>whnf)
  (repeat' (first|(refine CmpP.go (fun hc => ?_) (fun hc => ?_)<;>first|(exfalso;omega)|(conv=>whnf))|(refine OpP.add ?_ ?_;omega;conv=>whnf)|(refine OpP.sub ?_ ?_;omega;conv=>whnf)|(refine ConvP.u64 ?_ ?_;omega;conv=>whnf)|(refine LenP.go ?_;conv=>whnf)|(refine RdP.at (by assumption) ?_ rfl ?_;omega;conv=>whnf)|(refine CallP.go (hlz) ?_;conv=>whnf)))
  refine CalP.walk 1000 N.nat_lift rfl rfl ?_
  (repeat' (refine AKM.x ?_;conv=>whnf))
  refine MkR.go (enc:=e32) 0 (x.length+1) rfl (by omega) (by omega) ?_
  (conv=>whnf)
  (repeat' (refine LenP.go ?_;conv=>whnf))
  have hps:=pow_s_le (s:=s) (by omega)
  refine AKM.loop3 (fun i _ _=>x.length-i) (fun (i:Nat) (o:List Nat) (lo:Nat)=>i≤x.length∧o.length=x.length+1∧Dig o∧lo<2^s∧val (o.take i)+4294967296^i*lo=val (x.take i)*2^s) (fun i o lo=>[(8,.int .u32 (lo:Int)),(15,.int .i64 i)]) (fun i o lo=>[(71012,71012,.rw 1 (o.map e32))]) [] [] 0 (List.replicate (x.length+1) 0) 0 (by (conv=>whnf);exact ⟨rfl,rfl,rfl⟩) ⟨by omega,by simp,dig_zeros _,Nat.two_pow_pos s,by simp [val]⟩ ?_
  intro i o lo ⟨p1,p2,p3,p4,p5⟩ ih
  by_cases hi:i<x.length
  ·obtain ⟨d,hd⟩ : ∃ d,x[i]? = some d:=⟨_,List.getElem?_eq_getElem hi⟩
   have hdb:=d1.at hd
   obtain ⟨f1,f2,f3,f4⟩:=sh_facts (s:=s) hdb (by omega)
   (repeat' (first|(refine CmpP.go (fun hc => ?_) (fun hc => ?_)<;>first|(exfalso;omega)|(conv=>whnf))|(refine RdP.at (by assumption) ?_ rfl ?_;omega;conv=>whnf)|(refine AKM.x ?_;conv=>whnf)))
   refine OpP.sh4 (by omega) ?_
   (conv=>whnf)
   skip
   refine OpP.or4 s f1 p4 (by omega) ?_
   (conv=>whnf)
   (repeat' (first|(refine Req.go ?_ ?_;omega;conv=>whnf)|fail))
   refine StR.dig (by omega) ?_
   (conv=>whnf)
   (repeat' (refine ConvP.u64 ?_ ?_;omega;conv=>whnf))
   refine OpP.sh8 (by omega) f4 ?_
   (conv=>whnf)
   (repeat' (first|(refine OpP.add ?_ ?_;omega;conv=>whnf)|(refine OpP.nshr32 ?_;conv=>whnf)|(refine ConvP.n32i ?_ ?_;omega;conv=>whnf)))
   rw[←shHi_def]
   refine AKM.back [] (by (conv=>whnf);exact ⟨rfl,rfl,rfl⟩) (ih (i+1) _ _ (by omega) ⟨by omega,by simpa using p2,p3.set _ (by omega),f2,?_⟩)
   rw[val_set_take (by omega),val_take_succ hd,Nat.pow_succ]
   exact lift_step p5
  obtain rfl:i=x.length:=by omega
  clear ih
  (repeat' (first|(refine CmpP.go (fun hc => ?_) (fun hc => ?_)<;>first|(exfalso;omega)|(conv=>whnf))|(refine Req.go ?_ ?_;omega;conv=>whnf)|(refine LenP.go ?_;conv=>whnf)|(refine AKM.x ?_;conv=>whnf)))
  refine StR.dig (by omega) ?_
  (conv=>whnf)
  skip
  have hU:=lift_end2 p3 (by omega) p2 p5
  have hUl:(o.set x.length lo).length=x.length+1:=by simpa using p2
  clear p3 p4 p5 p2
  generalize o.set x.length lo=u at *
  refine ⟨rfl,_,rfl,?_⟩
  (conv=>whnf)
  (repeat' (first|(refine OpP.sub ?_ ?_;omega;conv=>whnf)|(refine LenP.go ?_;conv=>whnf)|(refine CallP.go (hrv) ?_;conv=>whnf)))
  have hyt':y[y.length-1]? = some yt:=by rw[←e1];exact hyt
  obtain ⟨n1,n2⟩:=lift_norm d2 hyt' (by omega) hs31 b3 b4
  have hVv:val v=Y*2^s:=by rw[←v2];exact hV.2.2 (by rw[hvl];exact n1)
  have hUu:val u=X*2^s:=by
   rw[←v1]
   refine hU.2.2 ?_
   have h3:=val_lt d1
   rw[hUl,Nat.pow_succ]
   exact Nat.lt_of_lt_of_le (Nat.mul_lt_mul_of_pos_right h3 (Nat.two_pow_pos s)) (Nat.mul_le_mul_left _ hps)
  have hVD:=hV.1
  have hUD:=hU.1
  have hVlt:=val_lt hVD
  rw[v2,←hVv]at n2
  rw[←hvl]at n2
  clear hV hU hcmp hrv hlz
  have hv2l:2≤v.length:=by omega
  have hvx:v.length≤x.length:=by omega
  have hvL:v.length≤549755813888:=by omega
  have hxL:x.length≤549755813888:=by omega
  have hX:X<4294967296^x.length:=by rw[←v1];exact val_lt d1
  rw[←hvl]
  generalize hm:x.length-v.length+1=m at *
  have hV0:0<val v:=by
   have:=pow_pos' (v.length-1)
   omega
  have hi0:val (u.drop m)<val v:=by
   have h1:=val_split u m (by omega)
   rw[hUu]at h1
   have h2:X*2^s<4294967296^x.length*2147483648:=Nat.lt_of_lt_of_le (Nat.mul_lt_mul_of_pos_right hX (Nat.two_pow_pos s)) (Nat.mul_le_mul_left _ (Nat.pow_le_pow_right (by omega) hs31))
   have h3:4294967296^x.length=4294967296^m*4294967296^(v.length-1):=by rw[←Nat.pow_add];congr 1;omega
   rw[h3,Nat.mul_assoc]at h2
   refine Nat.lt_of_lt_of_le ?_ n2
   refine Nat.lt_of_mul_lt_mul_left (a:=4294967296^m) ?_
   omega
  have e2:(x.length:Int)-v.length=((m:Nat):Int)-1:=by omega
  rw[e2]
  refine AKM.loop3 (fun n _ _=>n) (fun (n:Nat) (o w:List Nat)=>n≤m∧o.length=x.length+1∧Dig o∧w.length=m∧Dig w∧val (o.drop n)<val v∧X*2^s=val (o.take n)+4294967296^n*(val (w.drop n)*val v+val (o.drop n))) (fun n o w=>[(14,.int .i64 ((n:Int)-1))]) (fun n o w=>[(71012,71012,.rw 1 (o.map e32)),(28,28,.rw 1 (w.map e32))]) [] [] m u (List.replicate m 0) (by (conv=>whnf);exact ⟨rfl,rfl,rfl⟩) ⟨by omega,hUl,hUD,by simp,dig_zeros _,hi0,by rw[←hUu,List.drop_of_length_le (show (List.replicate m 0).length≤m by simp),val_nil,Nat.zero_mul,Nat.zero_add];exact val_split u m (by omega)⟩ ?_
  intro n o w ⟨p1,p2,p3,p4,p5,p6,p7⟩ ih
  rcases n with _|j
  ·clear ih
   rw[List.drop_zero]at p6
   rw[List.take_zero,List.drop_zero,List.drop_zero,val_nil,Nat.zero_add,Nat.pow_zero,Nat.one_mul]at p7
   have hdr:val o=val (o.take v.length):=by
    have h1:=val_splitD o v.length
    rcases Nat.eq_zero_or_pos (val (o.drop v.length)) with h2|h2
    ·rw[h2,Nat.mul_zero,Nat.add_zero]at h1;exact h1
    ·have h3:4294967296^v.length*1≤4294967296^v.length*val (o.drop v.length):=Nat.mul_le_mul_left _ h2
     omega
   have hX0:X/Y=val w∧X%Y=val o/2^s:=by
    obtain ⟨z1,z2⟩:=div_scale (X:=X) (Y:=Y) (Nat.two_pow_pos s)
    rw[←z1,←z2,←hVv,p7]
    have e1:(val w*val v+val o)/val v=val w:=by
     rw[Nat.mul_comm,Nat.mul_add_div hV0,Nat.div_eq_of_lt p6,Nat.add_zero]
    have e2:(val w*val v+val o)%val v=val o:=by
     rw[Nat.mul_comm,Nat.mul_add_mod,Nat.mod_eq_of_lt p6]
    rw[e1,e2]
    exact ⟨rfl,rfl⟩
   rw[hX0.1,hX0.2]
   have hl1:=dg_len_val p5
   obtain ⟨ro,hro,o2,k1,k2,k3,k4⟩:=ev_nat_lower N (o.take v.length) true s (p3.take _) hs31 (by rw[List.length_take];omega)
   subst k4
   rw[hdr,←k3]
   have hl2:=dg_len_val k1
   rw[List.length_take]at k2
   clear p7 hX0 hi0
   (repeat' (first|(refine CmpP.go (fun hc => ?_) (fun hc => ?_)<;>first|(exfalso;omega)|(conv=>whnf))|(refine AKM.x ?_;conv=>whnf)|(refine CalP.cutR N (by assumption) (by omega) rfl (by first|rfl|omega|assumption) ?_;conv=>whnf)))
   refine Bds.up v.length rfl (by omega) ?_
   (conv=>whnf)
   refine SnR.part (enc:=e32) (fun _=>rfl) (by omega) ?_
   (conv=>whnf)
   rw[List.drop_zero,Nat.sub_zero]
   (repeat' (first|(refine CallP.go (hro) ?_;conv=>whnf)|(refine CalP.ro (ro_cut N o2 _ k1 (by omega)) ?_;conv=>whnf)))
   refine SnR.part (enc:=e32) (fun _=>rfl) (by omega) ?_
   (conv=>whnf)
   refine FinP.go ?_ (cl_pair _ _)
   rw[List.drop_zero,take_dg p5]
  ·have e3:((j+1:Nat):Int)-1=j:=by omega
   rw[e3]
   have e4:(v.length:Int).toNat=v.length:=by omega
   obtain ⟨A,W,C,hA,hW,rfl⟩:=dv_cut o j (v.length+1) (by omega)
   obtain ⟨g1,g2,g3⟩:=dv_pre hA hW p3 p6 hVlt
   obtain ⟨D1,D2,D3⟩:=dig_win p3
   have hqb:val W/val v<4294967296:=(Nat.div_lt_iff_lt_mul hV0).2 g2
   have hWV:val W=val W/val v*val v+val W%val v:=by rw[Nat.mul_comm];exact (Nat.div_add_mod _ _).symm
   have hWl:val W%val v<val v:=Nat.mod_lt _ hV0
   have hTot:X*2^s=val A+4294967296^j*val W+4294967296^j*4294967296*(val (w.drop (j+1))*val v):=by
    rw[p7,Nat.mul_add,←g3,Nat.pow_succ];omega
   have hTot2:=dv_next hTot hWV
   have hset : ∀ q',q'=val W/val v→val ((w.set j q').drop j)=val W/val v+4294967296*val (w.drop (j+1)):=fun q' h=>by
    rw[val_getD_drop (l:=w.set j q') (d:=q') (by rw[List.getElem?_set_self (by omega)]),List.drop_set_of_lt (by omega),h]
   have hlen : ∀ W':List Nat,W'.length=v.length+1→(A++W'++C).length=x.length+1:=fun W' h=>by
    rw[←p2];simp [h,hW]
   (repeat' (first|(refine CmpP.go (fun hc => ?_) (fun hc => ?_)<;>first|(exfalso;omega)|(conv=>whnf))|(refine OpP.add ?_ ?_;omega;conv=>whnf)|(refine Bds.ss ?_ ?_;omega;conv=>whnf)|(refine AKM.x ?_;conv=>whnf)))
   rw[show ((j:Int)+v.length+1).toNat-(j:Int).toNat=v.length+1 by omega,show 0+(j:Int).toNat=j by omega]
   refine digit_walk N hA hW D2 hVD hv2l hvL hV0 n2 g2 (fun W' o' q' z1 z2 z3 z4 => ?_) (fun W' o' q' z1 z2 z3 z4 => ?_)
   ·(conv=>whnf)
    (repeat' (first|(refine Req.go ?_ ?_;omega;conv=>whnf)|fail))
    refine StR.dig (by omega) ?_
    (conv=>whnf)
    (repeat' (refine OpP.sub ?_ ?_;omega;conv=>whnf))
    obtain ⟨t1,t2⟩:=dv_post (A:=A) (W:=W') (C:=C) (j:=j) hA g1
    refine AKM.back [] (by (conv=>whnf);exact ⟨rfl,rfl,rfl⟩) (ih j (A++W'++C) (w.set j q') (by omega) ⟨by omega,hlen W' z1,(D1.append z2).append D3,by simpa using p4,p5.set _ (by omega),by omega,?_⟩)
    rw[t1,t2,hset q' z4,z3]
    exact hTot2
   ·(conv=>whnf)
    (repeat' (first|(refine Req.go ?_ ?_;omega;conv=>whnf)|fail))
    refine StR.dig (by omega) ?_
    (conv=>whnf)
    (repeat' (refine OpP.sub ?_ ?_;omega;conv=>whnf))
    obtain ⟨t1,t2⟩:=dv_post (A:=A) (W:=W') (C:=C) (j:=j) hA g1
    refine AKM.back [] (by (conv=>whnf);exact ⟨rfl,rfl,rfl⟩) (ih j (A++W'++C) (w.set j q') (by omega) ⟨by omega,hlen W' z1,(D1.append z2).append D3,by simpa using p4,p5.set _ (by omega),by omega,?_⟩)
    rw[t1,t2,hset q' z4,z3]
    exact hTot2
end Go.Eng

namespace Go.Eng
open F
attribute [local irreducible] AKM CmpP Req OpP UnP ConvP RdP LdR StR MkR LenP AppR AppN CpyR RowP SnR Bds SlS CallP CalP FinP pw LdM GetM SetM PutM MkM AppM SnM FlP CallR
set_option maxHeartbeats 4000000
variable {L:Lib}
theorem OpP.shr32 {k':IntKind} {a:Int} {K:AV→Prop} (hk:K (.int .i64 (a/4294967296))):OpP .shr .i64 a k' 32 K:=by
 refine OpP.shr (by omega) ?_
 have:pw 32=4294967296:=by decide +kernel
 rw[this];exact hk
theorem ConvP.i32 {t:Int} {K:Int→Prop} (hk:K (cmD t:Int)):ConvP .u32 t K:=by
 unfold ConvP
 rw[IntKind.wrap_u32,←cmD_eq];exact hk
section
variable {k':IntKind} {a b:Nat} {K:AV→Prop}
theorem OpP.shlm {i:Nat} (hi:i<2) (ha:a<4294967296) (hk:K (.int .u64 ((a*4294967296^i:Nat):Int))):OpP .shl .u64 (a:Int) k' (32*(i:Int)) K:=by
 rcases i with _|_|i
 ·exact OpP.sh8 (s:=0) (by omega) (by omega) hk
 ·exact OpP.sh8 (s:=32) (by omega) (by omega) hk
 ·omega
end
theorem int_mul_bd {x y M N:Int} (hx : -M≤x∧x≤M) (hy : -N≤y∧y≤N) : -(M*N)≤x*y∧x*y≤M*N:=by
 have h1:x.natAbs≤M.natAbs:=by omega
 have h2:y.natAbs≤N.natAbs:=by omega
 have h3:=Nat.mul_le_mul h1 h2
 rw[←Int.natAbs_mul,←Int.natAbs_mul]at h3
 have h4:0≤M*N:=Int.mul_nonneg (by omega) (by omega)
 omega
theorem ev_nat_DivMod (N:NatGLib L) (a b:List Nat) (q1 q2:Bool) (hA:Dig a) (hB:Dig b) (la:a.length≤549755813888) (lb:b.length≤549755813888) (h0:val b≠0) :
  Ev L 75 [.sl q1 (a.map e32),.sl q2 (b.map e32)] (.tup [.sl false ((dg (val a/val b)).map e32),.sl false ((dg (val a%val b)).map e32),.int .i64 0]):=by
 have l1:=dg_len_val hA
 have l2:=dg_len_val hB
 have hp:=dg_len_pos h0
 refine Ev.x N.nat_DivMod rfl rfl ?_
 (repeat' (first|(refine CmpP.go (fun hc => ?_) (fun hc => ?_)<;>first|(exfalso;omega)|(conv=>whnf))|(refine LenP.go ?_;conv=>whnf)|(refine AKM.x ?_;conv=>whnf)|(refine CalP.ro (ro_cut N a _ hA (by omega)) ?_;conv=>whnf)|(refine CalP.ro (ro_cut N b _ hB (by omega)) ?_;conv=>whnf)|(refine CallP.go (ev_nat_divide N _ _ _ _ h0 (by omega) (by omega)) ?_;conv=>whnf)))
 refine FinP.go rfl ?_
 simp only[Clean,CleanL,and_true,true_and]
 exact ⟨cl_dig _,cl_dig _⟩
theorem ev_nat_small (N:NatGLib L) (V:Nat) (q:Bool) (hl:(dg V).length≤2):Ev L 76 [.sl q ((dg V).map e32)] (.int .u64 (V:Int)):=by
 have hV:=dg_len_le.1 hl
 have hD:=dig_dg V
 have hv:=val_dg V
 refine Ev.x N.nat_small rfl rfl ?_
 generalize dg V=l at *
 (repeat' (first|(refine LenP.go ?_;conv=>whnf)|(refine AKM.x ?_;conv=>whnf)))
 refine AKM.loop2 (fun i _=>l.length-i) (fun (i:Nat) (a:Nat)=>i≤l.length∧a=val (l.take i)) (fun i a=>[(3,.int .u64 (a:Int)),(8,.int .i64 i)]) (fun _ _=>[]) [] [] 0 0 (by (conv=>whnf);exact ⟨rfl,rfl,rfl⟩) ⟨by omega,rfl⟩ ?_
 intro i a ⟨p1,p2⟩ ih
 by_cases hi:i<l.length
 ·obtain ⟨d,hd⟩ : ∃ d,l[i]? = some d:=⟨_,List.getElem?_eq_getElem hi⟩
  have hdb:=hD.at hd
  have h1:=val_take_succ hd
  have h2:=val_lt (hD.take i)
  have h3:=val_lt (hD.take (i+1))
  rw[List.length_take,Nat.min_eq_left (by omega)]at h2 h3
  have h4:4294967296^(i+1)≤4294967296^2:=Nat.pow_le_pow_right (by omega) (by omega)
  (repeat' (first|(refine CmpP.go (fun hc => ?_) (fun hc => ?_)<;>first|(exfalso;omega)|(conv=>whnf))|(refine OpP.mul ?_ ?_;omega;conv=>whnf)|(refine ConvP.u64 ?_ ?_;omega;conv=>whnf)|(refine RdP.at (by assumption) ?_ rfl ?_;omega;conv=>whnf)|(refine AKM.x ?_;conv=>whnf)))
  refine OpP.shlm (by omega) hdb ?_
  (conv=>whnf)
  rw[Nat.mul_comm d]
  refine OpP.nor8r (32*i) (by rw[Nat.pow_mul];exact Nat.mul_mod_right _ _) (by rw[Nat.pow_mul,p2];exact h2) (by omega) ?_
  (conv=>whnf)
  (repeat' (refine OpP.add ?_ ?_;omega;conv=>whnf))
  exact AKM.back [] (by (conv=>whnf);exact ⟨rfl,rfl,rfl⟩) (ih (i+1) _ (by omega) ⟨by omega,by rw[h1,p2]⟩)
 ·obtain rfl:i=l.length:=by omega
  clear ih
  (repeat' (first|(refine CmpP.go (fun hc => ?_) (fun hc => ?_)<;>first|(exfalso;omega)|(conv=>whnf))|(refine AKM.x ?_;conv=>whnf)))
  rw[val_take_all (Nat.le_refl _)]at p2
  exact FinP.i (by omega)
theorem CalP.fix {f:Nat} {vs:List AV} {tm:Tm} {M:Mem} {K:AV→Mem→Prop} {v:AV} (h:CalP L f vs tm M (fun r M'=>r=v∧M'=M)) (hk:K v M):CalP L f vs tm M K:=by
 unfold CalP at h ⊢
 intro σ own hs
 obtain ⟨r,own',σ',M',h1,h2,h3,rfl,rfl⟩:=h σ own hs
 exact ⟨_,own',σ',_,h1,h2,h3,hk⟩
theorem ev_nat_leading (N:NatGLib L) (a:List Nat) (q:Bool) (n s:Nat) (hD:Dig a) (hn:3≤n) (hl:a.length≤n) (hn2:n≤549755813888) (hs:s≤31) (hlt:val a*2^s<4294967296^n) :
  Ev L 78 [.sl q (a.map e32),.int .i64 (n:Int),.int .u64 (s:Int)] (.int .i64 ((val a/leadK n s:Nat):Int)):=by
 have b1:=getD_lt hD (n-1)
 have b2:=getD_lt hD (n-2)
 have b3:=getD_lt hD (n-3)
 have hfit:=lead_fits hD hn hl rfl rfl hlt
 have heq:=lead_eq (s:=s) hD hn hl hs rfl rfl rfl
 obtain ⟨f1,f2,f3,f4⟩:=sh_facts (s:=s) b3 (by omega)
 refine Ev.x N.nat_leading rfl rfl ?_
 (repeat' (first|(refine Req.go ?_ ?_;omega;conv=>whnf)|(refine OpP.sub ?_ ?_;omega;conv=>whnf)|(refine AKM.x ?_;conv=>whnf)))
 refine CalP.fix (v := .int .u64 ((a.getD (n-1) 0:Nat):Int)) ?_ ?_
 ·refine CalP.walk 1000 N.nat_leading_1 rfl rfl ?_
  (repeat' (first|(refine CmpP.go (fun hc => ?_) (fun hc => ?_)<;>first|(exfalso;omega)|(conv=>whnf))|(refine ConvP.u64 ?_ ?_;omega;conv=>whnf)|(refine LenP.go ?_;conv=>whnf)|(refine RdP.digi (by assumption) ?_ (fun e he hb => ?_);omega;conv=>whnf)|(refine AKM.x ?_;conv=>whnf)))
  ·refine ⟨rfl,_,rfl,?_,rfl⟩
   rw[show ((n:Int)-1).toNat=n-1 by omega]at he
   rw[getD_is he];rfl
  ·refine ⟨rfl,_,rfl,?_,rfl⟩
   rw[←getD_none (show a.length≤n-1 by omega)];rfl
 (conv=>whnf)
 (repeat' (first|(refine Req.go ?_ ?_;omega;conv=>whnf)|(refine OpP.sub ?_ ?_;omega;conv=>whnf)|(refine OpP.nshl32 ?_ ?_;omega;conv=>whnf)))
 refine CalP.fix (v := .int .u64 ((a.getD (n-2) 0:Nat):Int)) ?_ ?_
 ·refine CalP.walk 1000 N.nat_leading_1 rfl rfl ?_
  (repeat' (first|(refine CmpP.go (fun hc => ?_) (fun hc => ?_)<;>first|(exfalso;omega)|(conv=>whnf))|(refine ConvP.u64 ?_ ?_;omega;conv=>whnf)|(refine LenP.go ?_;conv=>whnf)|(refine RdP.digi (by assumption) ?_ (fun e he hb => ?_);omega;conv=>whnf)|(refine AKM.x ?_;conv=>whnf)))
  ·refine ⟨rfl,_,rfl,?_,rfl⟩
   rw[show ((n:Int)-2).toNat=n-2 by omega]at he
   rw[getD_is he];rfl
  ·refine ⟨rfl,_,rfl,?_,rfl⟩
   rw[←getD_none (show a.length≤n-2 by omega)];rfl
 (conv=>whnf)
 generalize a.getD (n-1) 0=d1 at *
 generalize a.getD (n-2) 0=d2 at *
 (repeat' (refine OpP.nor ?_ ?_;omega;conv=>whnf))
 refine OpP.sh8 (by omega) hfit ?_
 (conv=>whnf)
 generalize hT:(d1*4294967296+d2)*2^s=T at *
 (repeat' (first|(refine Req.go ?_ ?_;omega;conv=>whnf)|(refine OpP.sub ?_ ?_;omega;conv=>whnf)))
 refine CalP.fix (v := .int .u64 ((a.getD (n-3) 0:Nat):Int)) ?_ ?_
 ·refine CalP.walk 1000 N.nat_leading_1 rfl rfl ?_
  (repeat' (first|(refine CmpP.go (fun hc => ?_) (fun hc => ?_)<;>first|(exfalso;omega)|(conv=>whnf))|(refine ConvP.u64 ?_ ?_;omega;conv=>whnf)|(refine LenP.go ?_;conv=>whnf)|(refine RdP.digi (by assumption) ?_ (fun e he hb => ?_);omega;conv=>whnf)|(refine AKM.x ?_;conv=>whnf)))
  ·refine ⟨rfl,_,rfl,?_,rfl⟩
   rw[show ((n:Int)-3).toNat=n-3 by omega]at he
   rw[getD_is he];rfl
  ·refine ⟨rfl,_,rfl,?_,rfl⟩
   rw[←getD_none (show a.length≤n-3 by omega)];rfl
 (conv=>whnf)
 generalize a.getD (n-3) 0=d3 at *
 skip
 refine OpP.sh8 (by omega) f4 ?_
 (conv=>whnf)
 (repeat' (refine OpP.nshr32 ?_;conv=>whnf))
 rw[shHi_def]at f2
 refine OpP.nor8 s (by rw[←hT];exact Nat.mul_mod_left _ _) f2 (by have:=mul_room (k:=d1*4294967296+d2) (show s≤64 by omega) (by omega);omega) ?_
 (conv=>whnf)
 (repeat' (first|(refine OpP.nshr2 ?_;conv=>whnf)|(refine ConvP.i64 ?_ ?_;omega;conv=>whnf)))
 rw[heq]
 exact FinP.i rfl
theorem ev_nat_cofactors (N:NatGLib L) (P Q:Int) (hP:0≤P∧P≤4611686018427387904) (hQ:0≤Q∧Q≤4611686018427387904) : ∃ r,Ev L 79 [.int .i64 P,.int .i64 Q] r ∧ ∃ a b c d:Int,(LSg a b c d∧(-2147483647≤a∧a≤2147483647)∧(-2147483647≤b∧b≤2147483647)∧(-2147483647≤c∧c≤2147483647)∧(-2147483647≤d∧d≤2147483647))∧(b≠0→LGood P Q a b c d)∧r = .tup [.int .i64 a,.int .i64 b,.int .i64 c,.int .i64 d]:=by
 refine Ev.xE N.nat_cofactors rfl rfl ?_
 (repeat' (refine AKM.x ?_;conv=>whnf))
 refine AKM.loop6 (fun _ _ _ _ _ q=>(q+2147483648).toNat) (fun (a b c d p q:Int)=>LInv P Q a b c d p q∧((-2147483647≤a∧a≤2147483647)∧(-2147483647≤b∧b≤2147483647)∧(-2147483647≤c∧c≤2147483647)∧(-2147483647≤d∧d≤2147483647))∧(p≤4611686018427387904∧q≤4611686018427387904)∧LHalf P Q a b c d∧(b≠0→LGood P Q a b c d)) (fun a b c d p q=>[(0,.int .i64 p),(1,.int .i64 q),(4,.int .i64 a),(5,.int .i64 b),(6,.int .i64 c),(7,.int .i64 d)]) (fun _ _ _ _ _ _=>[]) [] [] 1 0 0 1 P Q (by (conv=>whnf);exact ⟨rfl,rfl,rfl⟩) ⟨LInv.start hP.1 hQ.1,by omega,by omega,LHalf.start P Q,fun h=>absurd rfl h⟩ ?_
 intro a b c d p q ⟨p1,⟨⟨p2,p2'⟩,⟨p3,p3'⟩,⟨p4,p4'⟩,⟨p5,p5'⟩⟩,⟨p6,p7⟩,p8,p9⟩ ih
 have g1:=p1.pa
 have g2:=p1.pb
 have g3:=p1.qc
 have g4:=p1.qd
 by_cases hc0:q+c=0
 ·(repeat' (first|(refine CmpP.go (fun hc => ?_) (fun hc => ?_)<;>first|(exfalso;omega)|(conv=>whnf))|(refine OpP.add ?_ ?_;omega;conv=>whnf)|(refine AKM.x ?_;conv=>whnf)))
  refine ⟨.tup [.int .i64 a,.int .i64 b,.int .i64 c,.int .i64 d],?_,a,b,c,d,⟨p1.sg,by omega⟩,p9,rfl⟩
  (conv=>whnf)
  exact FinP.go rfl (by simp [Clean,CleanL])
 by_cases hd0:q+d=0
 ·(repeat' (first|(refine CmpP.go (fun hc => ?_) (fun hc => ?_)<;>first|(exfalso;omega)|(conv=>whnf))|(refine OpP.add ?_ ?_;omega;conv=>whnf)|(refine AKM.x ?_;conv=>whnf)))
  refine ⟨.tup [.int .i64 a,.int .i64 b,.int .i64 c,.int .i64 d],?_,a,b,c,d,⟨p1.sg,by omega⟩,p9,rfl⟩
  (conv=>whnf)
  exact FinP.go rfl (by simp [Clean,CleanL])
 by_cases hff:(p+a)/(q+c)=(p+b)/(q+d)
 ·obtain ⟨s1,s2,s3,s4⟩:=p1.step hc0 hd0 rfl hff
  have s5:=s4 p8
  have s6:=s5.half
  have s7:=s1.qc
  by_cases hfl:2147483647<(p+a)/(q+c)
  ·(repeat' (first|(refine CmpP.go (fun hc => ?_) (fun hc => ?_)<;>first|(exfalso;omega)|(conv=>whnf))|(refine OpP.add ?_ ?_;omega;conv=>whnf)|(refine OpP.quo ?_ ?_ (fun _ => ?_) (fun _ _ => ?_);omega;omega;all_goals first|(exfalso;omega)|(conv=>whnf))|(refine AKM.x ?_;conv=>whnf)))
   refine ⟨.tup [.int .i64 a,.int .i64 b,.int .i64 c,.int .i64 d],?_,a,b,c,d,⟨p1.sg,by omega⟩,p9,rfl⟩
   (conv=>whnf)
   exact FinP.go rfl (by simp [Clean,CleanL])
  ·have t1:=int_mul_bd (x:=(p+a)/(q+c)) (y:=c) (M:=2147483647) (N:=2147483647) (by omega) (by omega)
   have t2:=int_mul_bd (x:=(p+a)/(q+c)) (y:=d) (M:=2147483647) (N:=2147483647) (by omega) (by omega)
   (repeat' (first|(refine CmpP.go (fun hc => ?_) (fun hc => ?_)<;>first|(exfalso;omega)|(conv=>whnf))|(refine OpP.add ?_ ?_;omega;conv=>whnf)|(refine OpP.sub ?_ ?_;omega;conv=>whnf)|(refine OpP.mul ?_ ?_;omega;conv=>whnf)|(refine OpP.quo ?_ ?_ (fun _ => ?_) (fun _ _ => ?_);omega;omega;all_goals first|(exfalso;omega)|(conv=>whnf))|(refine UnP.neg ?_ ?_;omega;conv=>whnf)|(refine AKM.x ?_;conv=>whnf)))
   all_goals first
    | exact AKM.back [] (by (conv=>whnf);exact ⟨rfl,rfl,rfl⟩) (ih _ _ _ _ _ _ (by omega) ⟨s1,by omega,by omega,s6,fun _=>s5⟩)
    |(refine ⟨.tup [.int .i64 a,.int .i64 b,.int .i64 c,.int .i64 d],?_,a,b,c,d,⟨p1.sg,by omega⟩,p9,rfl⟩
      (conv=>whnf)
      exact FinP.go rfl (by simp [Clean,CleanL]))
 ·(repeat' (first|(refine CmpP.go (fun hc => ?_) (fun hc => ?_)<;>first|(exfalso;omega)|(conv=>whnf))|(refine OpP.add ?_ ?_;omega;conv=>whnf)|(refine OpP.quo ?_ ?_ (fun _ => ?_) (fun _ _ => ?_);omega;omega;all_goals first|(exfalso;omega)|(conv=>whnf))|(refine AKM.x ?_;conv=>whnf)))
  refine ⟨.tup [.int .i64 a,.int .i64 b,.int .i64 c,.int .i64 d],?_,a,b,c,d,⟨p1.sg,by omega⟩,p9,rfl⟩
  (conv=>whnf)
  exact FinP.go rfl (by simp [Clean,CleanL])
theorem ev_nat_combine (N:NatGLib L) (x y:List Nat) (q1 q2:Bool) (f g:Int) (hX:Dig x) (hY:Dig y) (hl:y.length≤x.length) (lx:x.length≤549755813888) (hs:CSg f g) (R:Nat) (hR:(R:Int)=f*val x+g*val y) (hR2:R≤val x) :
  Ev L 80 [.sl q1 (x.map e32),.sl q2 (y.map e32),.int .i64 f,.int .i64 g] (.sl false ((dg R).map e32)):=by
 refine Ev.x N.nat_combine rfl rfl ?_
 (repeat' (first|(refine LenP.go ?_;conv=>whnf)|(refine AKM.x ?_;conv=>whnf)))
 refine MkR.go (enc:=e32) 0 x.length rfl rfl (by omega) ?_
 (conv=>whnf)
 (repeat' (refine LenP.go ?_;conv=>whnf))
 refine AKM.loop3 (fun i _ _=>x.length-i) (fun (i:Nat) (o:List Nat) (c:Int)=>i≤x.length∧o.length=x.length∧Dig o ∧ -2147483648≤c∧c≤2147483648∧(val (o.take i):Int)+((4294967296^i:Nat):Int)*c=f*val (x.take i)+g*val (y.take i)) (fun i o c=>[(10,.int .i64 c),(19,.int .i64 i)]) (fun i o c=>[(16,16,.rw 1 (o.map e32))]) [] [] 0 (List.replicate x.length 0) 0 (by (conv=>whnf);exact ⟨rfl,rfl,rfl⟩) ⟨by omega,by simp,dig_zeros _,by omega,by omega,by simp [val]⟩ ?_
 intro i o c ⟨p1,p2,p3,p4,p5,p6⟩ ih
 by_cases hi:i<x.length
 ·obtain ⟨d,hd⟩ : ∃ d,x[i]? = some d:=⟨_,List.getElem?_eq_getElem hi⟩
  have hdb:=hX.at hd
  have h1:=val_take_succ hd
  by_cases hy:i<y.length
  ·obtain ⟨e,he⟩ : ∃ e,y[i]? = some e:=⟨_,List.getElem?_eq_getElem hy⟩
   have heb:=hY.at he
   have h2:=val_take_succ he
   obtain ⟨r1,r2,r3⟩:=hs.rng hdb heb
   have hst:=cm_step (d:=d) (e:=e) p6 rfl
   (repeat' (first|(refine CmpP.go (fun hc => ?_) (fun hc => ?_)<;>first|(exfalso;omega)|(conv=>whnf))|(refine OpP.add ?_ ?_;omega;conv=>whnf)|(refine OpP.mul ?_ ?_;omega;conv=>whnf)|(refine ConvP.i64 ?_ ?_;omega;conv=>whnf)|(refine LenP.go ?_;conv=>whnf)|(refine RdP.at (by assumption) ?_ rfl ?_;omega;conv=>whnf)|(refine AKM.x ?_;conv=>whnf)))
   generalize htt:f * ↑d+c+g * ↑e=t at *
   refine ConvP.i32 ?_
   (conv=>whnf)
   (repeat' (first|(refine Req.go ?_ ?_;omega;conv=>whnf)|fail))
   refine StR.dig (by omega) ?_
   (conv=>whnf)
   refine OpP.shr32 ?_
   (conv=>whnf)
   (repeat' (refine OpP.add ?_ ?_;omega;conv=>whnf))
   refine AKM.back [] (by (conv=>whnf);exact ⟨rfl,rfl,rfl⟩) (ih (i+1) _ _ (by omega) ⟨by omega,by simpa using p2,p3.set _ (cmD_lt t),by omega,by omega,?_⟩)
   rw[val_set_take (by omega),h1,h2,Nat.pow_succ]
   simp only[Int.natCast_add,Int.natCast_mul,cmD_eq]
   exact hst
  ·have h2:=val_take_end (y:=y) (i:=i) (by omega)
   obtain ⟨r1,r2,r3⟩:=hs.rng (e:=0) hdb (by omega)
   have hst:=cm_step (d:=d) (e:=0) p6 rfl
   rw[Int.mul_zero,Int.add_zero]at hst
   have r4 : -9223372030412324865≤f*(d:Int)∧f*(d:Int)≤9223372030412324865:=r1
   (repeat' (first|(refine CmpP.go (fun hc => ?_) (fun hc => ?_)<;>first|(exfalso;omega)|(conv=>whnf))|(refine OpP.add ?_ ?_;omega;conv=>whnf)|(refine OpP.mul ?_ ?_;omega;conv=>whnf)|(refine ConvP.i64 ?_ ?_;omega;conv=>whnf)|(refine LenP.go ?_;conv=>whnf)|(refine RdP.at (by assumption) ?_ rfl ?_;omega;conv=>whnf)|(refine AKM.x ?_;conv=>whnf)))
   generalize htt:f * ↑d+c=t at *
   refine ConvP.i32 ?_
   (conv=>whnf)
   (repeat' (first|(refine Req.go ?_ ?_;omega;conv=>whnf)|fail))
   refine StR.dig (by omega) ?_
   (conv=>whnf)
   refine OpP.shr32 ?_
   (conv=>whnf)
   (repeat' (refine OpP.add ?_ ?_;omega;conv=>whnf))
   refine AKM.back [] (by (conv=>whnf);exact ⟨rfl,rfl,rfl⟩) (ih (i+1) _ _ (by omega) ⟨by omega,by simpa using p2,p3.set _ (cmD_lt t),by omega,by omega,?_⟩)
   rw[val_set_take (by omega),h1,h2,Nat.pow_succ]
   simp only[Int.natCast_add,Int.natCast_mul,cmD_eq]
   rw[Int.mul_zero,Int.add_zero]at hst
   exact hst
 ·obtain rfl:i=x.length:=by omega
  clear ih
  rw[val_take_all (by omega),val_take_all (Nat.le_refl _),val_take_all (by omega)]at p6
  have hov:=val_lt p3
  have hxv:=val_lt hX
  rw[p2]at hov
  have hVR:val o=R:=by
   have:=cm_end hov p6 (by omega) (by omega)
   omega
  have hl1:=dg_len_val p3
  rw[←p2,←hVR]
  (repeat' (first|(refine CmpP.go (fun hc => ?_) (fun hc => ?_)<;>first|(exfalso;omega)|(conv=>whnf))|(refine AKM.x ?_;conv=>whnf)|(refine CalP.cutR N (by assumption) (by omega) rfl (by first|rfl|omega|assumption) ?_;conv=>whnf)))
  refine SnR.part (enc:=e32) (fun _=>rfl) (by omega) ?_
  (conv=>whnf)
  refine FinP.go ?_ (by simp only[Clean,true_and];exact cl_dig _)
  rw[List.drop_zero,take_dg p3]
theorem ev_nat_shorten (N:NatGLib L) (X Y:Nat) (hXY:Y≤X) (hy:3≤(dg Y).length) (lx:(dg X).length≤549755813888) : ∃ r,Ev L 81 [.sl false ((dg X).map e32),.sl false ((dg Y).map e32)] r ∧ ∃ A B:Nat,(B<Y∧B≤A∧A≤X∧Nat.gcd A B=Nat.gcd X Y)∧r = .tup [.sl false ((dg A).map e32),.sl false ((dg B).map e32)]:=by
 have hY0:Y≠0:=fun h=>by rw[h,dg_zero]at hy;simp at hy
 have hX0:X≠0:=by omega
 have hlen:=dg_len_mono hXY
 have hdv:=fun q q'=>ev_nat_divide N X Y q q' hY0 lx (by omega)
 have d1:=dig_dg X
 have d2:=dig_dg Y
 have v1:=val_dg X
 have v2:=val_dg Y
 obtain ⟨xt,hxt,hxt0⟩:=dg_top hX0
 have hxtb:=d1.at hxt
 obtain ⟨b1,b2,b3,b4⟩:=lz_top hxt0 hxtb
 have hlz:=ev_LZ32 N xt hxtb
 generalize hs:32-blen xt=s at *
 have hs31:s≤31:=by omega
 obtain ⟨n1,n2⟩:=lift_norm d1 hxt (by omega) hs31 b3 b4
 have hcb:=fun (f g:Int) (R:Nat) (hs:CSg f g) (h1:(R:Int)=f*val (dg X)+g*val (dg Y)) (h2:R≤val (dg X)) (q q':Bool)=>ev_nat_combine N (dg X) (dg Y) q q' f g d1 d2 (by omega) lx hs R h1 h2
 have n3:val (dg Y)*2^s<4294967296^(dg X).length:=Nat.lt_of_le_of_lt (Nat.mul_le_mul_right _ (by omega)) n1
 have hl1:=fun q=>ev_nat_leading N (dg X) q (dg X).length s d1 (by omega) (by omega) lx hs31 n1
 have hl2:=fun q=>ev_nat_leading N (dg Y) q (dg X).length s d2 (by omega) (by omega) lx hs31 n3
 have hK:=leadK_pos (dg X).length s
 obtain ⟨e1,x1,x2,x3⟩:=lead_part (V:=X) hK
 obtain ⟨e2,y1,y2,y3⟩:=lead_part (V:=Y) hK
 rw[v1]at hl1
 rw[v2]at hl2
 have hq1:=lead_le d1 (n:=(dg X).length) (by omega) (by omega) hs31 n1
 have hq2:=lead_le d2 (n:=(dg X).length) (by omega) (by omega) hs31 n3
 rw[v1]at hq1
 rw[v2]at hq2
 generalize leadK (dg X).length s=K at *
 generalize X/K=P at *
 generalize Y/K=Q at *
 rw[v1,v2]at hcb
 obtain ⟨rc,hrc,a,b,c,d,⟨z1,z2,z3,z4,z5⟩,z6,rfl⟩:=ev_nat_cofactors N (P:Int) (Q:Int) (by omega) (by omega)
 have e1:(((dg X).length:Int)-1).toNat=(dg X).length-1:=by omega
 rw[←e1]at hxt
 refine Ev.xE N.nat_shorten rfl rfl ?_
 by_cases hb:b=0
 ·(repeat' (first|(refine CmpP.go (fun hc => ?_) (fun hc => ?_)<;>first|(exfalso;omega)|(conv=>whnf))|(refine OpP.sub ?_ ?_;omega;conv=>whnf)|(refine ConvP.u64 ?_ ?_;omega;conv=>whnf)|(refine LenP.go ?_;conv=>whnf)|(refine RdP.at (by assumption) ?_ rfl ?_;omega;conv=>whnf)|(refine AKM.x ?_;conv=>whnf)|(refine CallP.go (hlz) ?_;conv=>whnf)|(refine CallP.go (hl1 _) ?_;conv=>whnf)|(refine CallP.go (hl2 _) ?_;conv=>whnf)|(refine CallP.go (hrc) ?_;conv=>whnf)|(refine CallP.go (hdv _ _) ?_;conv=>whnf)))
  refine ⟨_,?_,Y,X%Y,⟨Nat.mod_lt _ (by omega),Nat.le_of_lt (Nat.mod_lt _ (by omega)),hXY,gcd_mod_step X Y⟩,rfl⟩
  (conv=>whnf)
  exact FinP.go rfl (cl_pair _ _)
 ·obtain ⟨g1,g2,g3,g4⟩:=z6 hb (X:Int) (Y:Int) (K:Int) _ _ (by omega) x1 y1 x2 x3 y2 y3
  obtain ⟨A,hA⟩:=Int.eq_ofNat_of_zero_le (show 0≤a*X+b*Y by omega)
  obtain ⟨B,hB⟩:=Int.eq_ofNat_of_zero_le g1
  have s1:CSg a b:=by rcases z1 with ⟨h1,h2,h3,h4⟩|⟨h1,h2,h3,h4⟩<;>unfold CSg<;>omega
  have s2:CSg c d:=by rcases z1 with ⟨h1,h2,h3,h4⟩|⟨h1,h2,h3,h4⟩<;>unfold CSg<;>omega
  (repeat' (first|(refine CmpP.go (fun hc => ?_) (fun hc => ?_)<;>first|(exfalso;omega)|(conv=>whnf))|(refine OpP.sub ?_ ?_;omega;conv=>whnf)|(refine ConvP.u64 ?_ ?_;omega;conv=>whnf)|(refine LenP.go ?_;conv=>whnf)|(refine RdP.at (by assumption) ?_ rfl ?_;omega;conv=>whnf)|(refine AKM.x ?_;conv=>whnf)|(refine CallP.go (hlz) ?_;conv=>whnf)|(refine CallP.go (hl1 _) ?_;conv=>whnf)|(refine CallP.go (hl2 _) ?_;conv=>whnf)|(refine CallP.go (hrc) ?_;conv=>whnf)|(refine CallP.go (hcb a b A s1 hA.symm (by omega) _ _) ?_;conv=>whnf)|(refine CallP.go (hcb c d B s2 hB.symm (by omega) _ _) ?_;conv=>whnf)))
  rw[hA,hB]at g4
  rw[hA,hB]at g2
  refine ⟨_,?_,A,B,⟨by omega,by omega,by omega,by simpa using g4⟩,rfl⟩
  (conv=>whnf)
  exact FinP.go rfl (cl_pair _ _)
theorem gcd_main (N:NatGLib L) (X Y:Nat) (hXY:Y≤X) (lx:(dg X).length≤549755813888) :
 AKM L [It.lp nat_Gcd.l1,It.blk 0,
   It.code
    ((((ACode.ops nat_Gcd.r6 false).dr [23,30,31] []).seq
       (ACode.cond 32 (((ACode.ops nat_Gcd.r7 false).dr [5,6,32,33] []).seq ACode.ret) ACode.skip)).seq
     (((ACode.ops nat_Gcd.r8 false).dr [5,7,32,34,35,36,37,38,39] []).seq
      (((ACode.ops nat_Gcd.r9 false).dr [6,8,40,41,42,43] []).seq
       ((ACode.block 2 nat_Gcd.l2.loop).seq
        (((ACode.ops nat_Gcd.r12 false).dr [9,10,45,50,51,52,53,54,55,56] []).seq ACode.ret)))))]
  [(6,AV.sl false (List.map e32 (dg Y))),(5,AV.sl false (List.map e32 (dg X)))] []
  (RetX nat_Gcd (AV.sl false (List.map e32 (dg (X.gcd Y))))):=by
 refine AKM.loop2 (fun _ y=>y) (fun (x y:Nat)=>y≤x∧(dg x).length≤549755813888∧Nat.gcd x y=Nat.gcd X Y) (fun x y=>[(6,AV.sl false (List.map e32 (dg y))),(5,AV.sl false (List.map e32 (dg x)))]) (fun _ _=>[]) [] [] X Y (by (conv=>whnf);exact ⟨rfl,rfl,rfl⟩) ⟨hXY,lx,rfl⟩ ?_
 intro x y ⟨p1,p2,p3⟩ ih
 rw[←p3]at ih ⊢
 generalize Nat.gcd X Y=G at *
 clear hXY lx
 subst p3
 have hlen:=dg_len_mono p1
 by_cases h3:3≤(dg y).length
 ·obtain ⟨r,hr,A,B,⟨k1,k2,k3,k4⟩,rfl⟩:=ev_nat_shorten N x y p1 h3 p2
  have k5:=dg_len_mono k3
  (repeat' (first|(refine CmpP.go (fun hc => ?_) (fun hc => ?_)<;>first|(exfalso;omega)|(conv=>whnf))|(refine LenP.go ?_;conv=>whnf)|(refine AKM.x ?_;conv=>whnf)|(refine CallP.go (hr) ?_;conv=>whnf)))
  exact AKM.back [] (by (conv=>whnf);exact ⟨rfl,rfl,rfl⟩) (ih A B k1 ⟨k2,by omega,k4⟩)
 ·clear ih
  by_cases h0:y=0
  ·subst h0
   have hl0:(dg 0).length=0:=by rw[dg_zero];rfl
   (repeat' (first|(refine CmpP.go (fun hc => ?_) (fun hc => ?_)<;>first|(exfalso;omega)|(conv=>whnf))|(refine LenP.go ?_;conv=>whnf)|(refine AKM.x ?_;conv=>whnf)))
   rw[Nat.gcd_zero_right]
   exact FinP.go rfl (by simp only[Clean,true_and];exact cl_dig _)
  ·have hp:=dg_len_pos h0
   have hm:=dg_len_mono (Nat.le_of_lt (Nat.mod_lt x (show y>0 by omega)))
   have hd:=fun q q'=>ev_nat_divide N x y q q' h0 p2 (by omega)
   have hs1:=fun q=>ev_nat_small N y q (by omega)
   have hs2:=fun q=>ev_nat_small N (x%y) q (by omega)
   have hb:y<18446744073709551616:=dg_len_le.1 (show (dg y).length≤2 by omega)
   have hml:x%y<y:=Nat.mod_lt _ (by omega)
   rw[←gcd_mod_step x y]
   (repeat' (first|(refine CmpP.go (fun hc => ?_) (fun hc => ?_)<;>first|(exfalso;omega)|(conv=>whnf))|(refine LenP.go ?_;conv=>whnf)|(refine AKM.x ?_;conv=>whnf)|(refine CallP.go (hd _ _) ?_;conv=>whnf)|(refine CallP.go (hs1 _) ?_;conv=>whnf)|(refine CallP.go (hs2 _) ?_;conv=>whnf)))
   refine AKM.loop2 (fun _ q=>q) (fun (p q:Nat)=>p<18446744073709551616∧q<18446744073709551616∧Nat.gcd p q=Nat.gcd y (x%y)) (fun p q=>[(9,.int .u64 (p:Int)),(10,.int .u64 (q:Int))]) (fun _ _=>[]) [] [] y (x%y) (by (conv=>whnf);exact ⟨rfl,rfl,rfl⟩) ⟨hb,by omega,rfl⟩ ?_
   intro p q ⟨g1,g2,g3⟩ ih
   rw[←g3]at ih ⊢
   by_cases hq:q=0
   ·subst hq
    clear ih
    obtain ⟨v1,v2⟩:=dg2 g1
    rw[Nat.gcd_zero_right]
    have hl1:=dg_len_val v2
    have ht:=take_dg v2
    rw[v1]at hl1 ht
    (repeat' (first|(refine CmpP.go (fun hc => ?_) (fun hc => ?_)<;>first|(exfalso;omega)|(conv=>whnf))|(refine OpP.nshr32 ?_;conv=>whnf)|(refine ConvP.n32i ?_ ?_;omega;conv=>whnf)|(refine ConvP.n32 ?_;conv=>whnf)|(refine AKM.x ?_;conv=>whnf)))
    generalize p%4294967296=lo at *
    generalize p/4294967296=hi at *
    refine CalP.cutR N v2 (by simp) rfl rfl ?_
    rw[v1]
    (conv=>whnf)
    skip
    refine SnR.part (enc:=e32) (l:=[lo,hi]) (fun _=>rfl) (by omega) ?_
    (conv=>whnf)
    refine FinP.go ?_ (by simp only[Clean,true_and];exact cl_dig _)
    rw[List.drop_zero,ht]
   ·have hpq:p%q<q:=Nat.mod_lt _ (by omega)
    (repeat' (first|(refine CmpP.go (fun hc => ?_) (fun hc => ?_)<;>first|(exfalso;omega)|(conv=>whnf))|(refine OpP.nrem ?_ ?_;omega;conv=>whnf)|(refine AKM.x ?_;conv=>whnf)))
    exact AKM.back [] (by (conv=>whnf);exact ⟨rfl,rfl,rfl⟩) (ih q (p%q) hpq ⟨g2,by omega,gcd_mod_step p q⟩)
theorem ev_nat_Gcd (N:NatGLib L) (a b:List Nat) (q1 q2:Bool) (hA:Dig a) (hB:Dig b) (la:a.length≤549755813888) (lb:b.length≤549755813888) :
  Ev L 82 [.sl q1 (a.map e32),.sl q2 (b.map e32)] (.sl false ((dg (Nat.gcd (val a) (val b))).map e32)):=by
 have t1:=fun q=>ev_Trim N a q hA (by omega)
 have t2:=fun q=>ev_Trim N b q hB (by omega)
 have l1:=dg_len_val hA
 have l2:=dg_len_val hB
 have hcmp:=fun q q'=>ev_nat_Compare N (dg (val a)) (dg (val b)) q q' (dig_dg _) (dig_dg _) (by omega) (by omega)
 rw[val_dg,val_dg]at hcmp
 generalize val a=X at *
 generalize val b=Y at *
 refine Ev.x N.nat_Gcd rfl rfl ?_
 by_cases hlt:X<Y
 ·have hn:cmpS X Y = -1:=(cmpS_lt (by omega)).symm
  rw[hn]at hcmp
  (repeat' (first|(refine CmpP.go (fun hc => ?_) (fun hc => ?_)<;>first|(exfalso;omega)|(conv=>whnf))|(refine AKM.x ?_;conv=>whnf)|(refine CallP.go (t1 _) ?_;conv=>whnf)|(refine CallP.go (t2 _) ?_;conv=>whnf)|(refine CallP.go (hcmp _ _) ?_;conv=>whnf)))
  rw[Nat.gcd_comm]
  exact AKM.back [] (by (conv=>whnf);exact ⟨rfl,rfl,rfl⟩) (gcd_main N Y X (by omega) (by omega))
 ·have hge:0≤cmpS X Y:=by unfold cmpS;split<;>(try split)<;>omega
  generalize cmpS X Y=cm at *
  (repeat' (first|(refine CmpP.go (fun hc => ?_) (fun hc => ?_)<;>first|(exfalso;omega)|(conv=>whnf))|(refine AKM.x ?_;conv=>whnf)|(refine CallP.go (t1 _) ?_;conv=>whnf)|(refine CallP.go (t2 _) ?_;conv=>whnf)|(refine CallP.go (hcmp _ _) ?_;conv=>whnf)))
  exact AKM.back [] (by (conv=>whnf);exact ⟨rfl,rfl,rfl⟩) (gcd_main N X Y (by omega) (by omega))
end Go.Eng

namespace Go.Eng
def resLtC (N:Nat):List ARes→Bool
 | []=>true
 | .tmp t::r=>Nat.blt t N&&resLtC N r
 | .cell t _ _::r=>Nat.blt t N&&resLtC N r
theorem resOf_lo {N:Nat} {s s':St} (ho:s.own=s'.own) (hlo : ∀ j,j<N→tget s'.tm j=tget s.tm j) : ∀ {res:List ARes},resLtC N res=true→res.mapM (resOf s)=res.mapM (resOf s')
 | [],_=>rfl
 | .tmp t::r,h=>by
  simp only[resLtC,Bool.and_eq_true]at h
  have:=resOf_lo ho hlo h.2
  simp only[List.mapM_cons,resOf,hlo t (blt_iff.1 h.1),this]
 | .cell t agg n::r,h=>by
  simp only[resLtC,Bool.and_eq_true]at h
  have:=resOf_lo ho hlo h.2
  simp only[List.mapM_cons,resOf,hlo t (blt_iff.1 h.1),this,ho]
def RetC (N:Nat) (fn:AFn) (tm:Tm) (K:AV→Mem→Prop) (tm':Tm) (M':Mem):Prop:=gh N tm'=tm∧resLX tm' M' fn.res (fun rs=>rsv rs fun v=>K v M')
theorem CalP.walkC {L:Lib} {f:Nat} {fn:AFn} {vs:List AV} {tm:Tm} {M:Mem} {K:AV→Mem→Prop} (N:Nat) (hL:L f=some fn) (hp:Nat.beq vs.length fn.pars=true) (hN:(Nat.ble fn.pars N&&(cLt N fn.body&&resLtC N fn.res))=true)
  (h:AKM L [.code fn.body] (initTm 0 vs++shT N tm) M (RetC N fn tm K)):CalP L f vs tm M K:=by
 intro σ own hs
 simp only[Bool.and_eq_true]at hN
 obtain ⟨n1,n2,n3⟩:=hN
 have n1:=Nat.le_of_ble_eq_true n1
 have hp:vs.length=fn.pars:=Nat.eq_of_beq_eq_true hp
 have hrx:RX σ (initTm 0 vs++shT N tm) M ⟨mapT (st3 σ) (initTm 0 vs++shT N tm),own⟩:=⟨fun j=>Or.inr (by rw[tg_eq];exact tget_mapT (st3_any σ) j _),hs⟩
 obtain ⟨n,c,s',hr,σ',tm',M',hR,hg,hres⟩:=h σ _ hrx
 have hgh:Gh N (mapT (st3 σ) (shT N tm)) (initTm 0 (vs.map (st3 σ))) (mapT (st3 σ) (initTm 0 vs++shT N tm)):=by
  constructor
  ·intro j hj
   rw[initTm_map,tget_mapT (st3_any σ),tget_mapT (st3_any σ)]
   rcases tget_append j (shT N tm) (initTm 0 vs) with ⟨_,e⟩|⟨hn,e⟩
   ·rw[e]
   ·rw[e,tget_shT_lt hj,tget_initTm_hi j 0 vs hn]
  ·intro j hj
   rw[tget_mapT (st3_any σ),tget_mapT (st3_any σ)]
   rcases tget_append j (shT N tm) (initTm 0 vs) with ⟨hn,e⟩|⟨_,e⟩
   ·have:=initTm_any j 0 vs hn
    omega
   ·rw[e]
 obtain ⟨s,r1,r2,r3⟩:=run_gh n (by simp [iLt,n2]) hgh hr
 obtain ⟨rs,i1,i2,i3⟩:=resLX_sound hR hres
 rw[←resOf_lo (s:=s) r2.symm r3.lo n3,i3]at i1
 have key : ∃ r,resVal (rs.map (st2 σ'))=st3 σ' r∧K r M':=by
  match rs,i2,i3 with
  | [],h,_=>exact ⟨.tup [],rfl,h⟩
  | [v],h,e =>
   simp only[List.map_cons,List.map_nil,List.cons.injEq,and_true]at e
   exact ⟨v,by simp only[List.map_cons,List.map_nil,resVal];exact e.symm,h⟩
  | a::b::l,h,_=>exact ⟨.tup (a::b::l),rfl,h⟩
 obtain ⟨r,k1,k2⟩:=key
 refine ⟨r,s.own,σ',M',EvI.intro hL (by simpa using hp) ⟨n,c,s,r1,?_,rfl⟩,?_,?_,k2⟩
 ·rw[i1,Option.map_some,k1]
 ·rw[←r2];exact hR.sat
 ·intro j
  have e1:tg tm j=tg tm' (N+j):=by rw[tg_eq,tg_eq,←hg,tget_gh]
  rcases hR.tm (N+j) with e|e
  ·rw[e1,e];rfl
  ·rw[e1,←e,r3.hi (N+j) (by omega),tget_mapT (st3_any σ),tget_shT,←tg_eq,e1]
end Go.Eng

namespace Go.Eng
open F
attribute [local irreducible] AKM CmpP Req OpP UnP ConvP RdP LdR StR MkR LenP AppR AppN CpyR RowP SnR Bds SlS CallP CalP FinP pw LdM GetM SetM PutM MkM AppM SnM FlP CallR
set_option maxHeartbeats 4000000
variable {L:Lib}
theorem ConvP.u64neg {k:Nat} {K:Int→Prop} (h:0<k∧k≤9223372036854775808) (hk:K ((18446744073709551616-k:Nat):Int)):ConvP .u64 (-(k:Int)) K:=by
 unfold ConvP
 have e:IntKind.u64.wrap (-(k:Int))=((18446744073709551616-k:Nat):Int):=by
  simp [IntKind.wrap,IntKind.bits,IntKind.signed];omega
 rw[e];exact hk
theorem UnP.neg64 {k:Nat} {K:AV→Prop} (h:0<k∧k≤9223372036854775808) (hk:K (.int .u64 (k:Int))):UnP .neg .u64 ((18446744073709551616-k:Nat):Int) K:=by
 refine UnP.go (v := .int .u64 (IntKind.u64.wrap (0-((18446744073709551616-k:Nat):Int)))) rfl ?_
 have e:IntKind.u64.wrap (0-((18446744073709551616-k:Nat):Int))=(k:Int):=by
  simp [IntKind.wrap,IntKind.bits,IntKind.signed];omega
 rw[e];exact hk
theorem ev_integer_Of (N:RatGLib L) (z:Int) (hz : -9223372036854775808≤z∧z≤9223372036854775807):Ev L 85 [.int .i64 z] (.agg (eZ z)):=by
 have two : ∀ k:Nat,k<18446744073709551616 → ∀ q,Ev L 66 [.sl q [[.int .u32 ((k%4294967296:Nat):Int)],[.int .u32 ((k/4294967296:Nat):Int)]]] (.sl false ((dg k).map e32)):=fun k hk q=>by
  have:=ev_Trim N.toNatGLib [k%4294967296,k/4294967296] q (dg2 hk).2 (by simp)
  rw[val_two hk]at this
  exact this
 refine Ev.x N.integer_Of rfl rfl ?_
 by_cases h0:0≤z
 ·obtain ⟨k,rfl⟩:=Int.eq_ofNat_of_zero_le h0
  have hT:=two k (by omega)
  have z1:=dg_len0 k
  (repeat' (first|(refine CmpP.go (fun hc => ?_) (fun hc => ?_)<;>first|(exfalso;omega)|(conv=>whnf))|(refine OpP.nshr32 ?_;conv=>whnf)|(refine ConvP.u64 ?_ ?_;omega;conv=>whnf)|(refine ConvP.n32i ?_ ?_;omega;conv=>whnf)|(refine ConvP.n32 ?_;conv=>whnf)|(refine SnR.e2 rfl rfl ?_;conv=>whnf)|(refine AKM.x ?_;conv=>whnf)))
  generalize k%4294967296=lo at *
  generalize k/4294967296=hi at *
  (repeat' (refine CallP.go (hT _) ?_;conv=>whnf))
  refine CalP.walkC 1000 N.integer_signed rfl rfl ?_
  (repeat' (refine AKM.x ?_;conv=>whnf))
  all_goals (refine ⟨rfl,?_⟩;(conv=>whnf);skip)
  exact FinP.go (agg_eZ (by omega) (sgn_F (by omega))) (cl_eZ _)
 ·obtain ⟨k,hk⟩:=Int.eq_ofNat_of_zero_le (show 0 ≤ -z by omega)
  obtain rfl:z = -(k:Int):=by omega
  have hT:=two k (by omega)
  have z1:=dg_len0 k
  (repeat' (refine AKM.x ?_;conv=>whnf))
  refine ConvP.u64neg (by omega) ?_
  (conv=>whnf)
  (repeat' (refine CmpP.go (fun hc => ?_) (fun hc => ?_)<;>first|(exfalso;omega)|(conv=>whnf)))
  refine UnP.neg64 (by omega) ?_
  (conv=>whnf)
  (repeat' (first|(refine CmpP.go (fun hc => ?_) (fun hc => ?_)<;>first|(exfalso;omega)|(conv=>whnf))|(refine OpP.nshr32 ?_;conv=>whnf)|(refine ConvP.n32i ?_ ?_;omega;conv=>whnf)|(refine ConvP.n32 ?_;conv=>whnf)|(refine SnR.e2 rfl rfl ?_;conv=>whnf)))
  generalize k%4294967296=lo at *
  generalize k/4294967296=hi at *
  (repeat' (refine CallP.go (hT _) ?_;conv=>whnf))
  refine CalP.walkC 1000 N.integer_signed rfl rfl ?_
  (repeat' (first|(refine CmpP.go (fun hc => ?_) (fun hc => ?_)<;>first|(exfalso;omega)|(conv=>whnf))|(refine LenP.go ?_;conv=>whnf)|(refine AKM.x ?_;conv=>whnf)))
  all_goals (refine ⟨rfl,?_⟩;(conv=>whnf);skip)
  exact FinP.go (agg_eZ (by omega) (sgn_T (by omega))) (cl_eZ _)
theorem ev_integer_Trim (N:RatGLib L) (n q:Bool) (m:List Nat) (hm:Sm 549755813888 m):Ev L 84 [.agg (rZ q n m)] (.agg (eZ (zv n m))):=by
 have hT:=fun q=>ev_Trim N.toNatGLib m q hm.1 (by have:=hm.2;omega)
 have hz:=dg_len0 (val m)
 have ha:=zv_abs n m
 refine Ev.x N.integer_Trim rfl rfl ?_
 cases n
 ·rw[zv_F]at *
  (repeat' (first|(refine AKM.x ?_;conv=>whnf)|(refine CallP.go (hT _) ?_;conv=>whnf)))
  refine CalP.walkC 1000 N.integer_signed rfl rfl ?_
  (repeat' (refine AKM.x ?_;conv=>whnf))
  all_goals (refine ⟨rfl,?_⟩;(conv=>whnf);skip)
  exact FinP.go (agg_eZ ha.symm (sgn_F (by omega))) (cl_eZ _)
 ·rw[zv_T]at *
  (repeat' (first|(refine AKM.x ?_;conv=>whnf)|(refine CallP.go (hT _) ?_;conv=>whnf)))
  refine CalP.walkC 1000 N.integer_signed rfl rfl ?_
  (repeat' (first|(refine CmpP.go (fun hc => ?_) (fun hc => ?_)<;>first|(exfalso;omega)|(conv=>whnf))|(refine LenP.go ?_;conv=>whnf)|(refine AKM.x ?_;conv=>whnf)))
  all_goals (refine ⟨rfl,?_⟩;(conv=>whnf);skip)
  ·exact FinP.go (agg_eZ ha.symm (sgn_T (by omega))) (cl_eZ _)
  ·exact FinP.go (agg_eZ ha.symm (sgn_F (by omega))) (cl_eZ _)
theorem ev_integer_Sign (N:RatGLib L) (n q:Bool) (m:List Nat) (hm:Sm 549755813888 m):Ev L 86 [.agg (rZ q n m)] (.int .i64 (sgn (zv n m))):=by
 have hcmp:=fun q q'=>ev_nat_Compare N.toNatGLib m [] q q' hm.1 dig_nil (by have:=hm.2;omega) (by simp)
 rw[val_nil]at hcmp
 refine Ev.x N.integer_Sign rfl rfl ?_
 by_cases h0:val m=0
 ·have hn:cmpS (val m) (0:Nat)=0:=(cmpS_eq (by omega)).symm
  rw[hn]at hcmp
  (repeat' (first|(refine CmpP.go (fun hc => ?_) (fun hc => ?_)<;>first|(exfalso;omega)|(conv=>whnf))|(refine AKM.x ?_;conv=>whnf)|(refine CallP.go (hcmp _ _) ?_;conv=>whnf)))
  exact FinP.i (sgn_zero (by have:=zv_abs n m;omega))
 ·have hn:cmpS (val m) (0:Nat)=1:=(cmpS_gt (by omega)).symm
  rw[hn]at hcmp
  cases n
  ·(repeat' (first|(refine CmpP.go (fun hc => ?_) (fun hc => ?_)<;>first|(exfalso;omega)|(conv=>whnf))|(refine AKM.x ?_;conv=>whnf)|(refine CallP.go (hcmp _ _) ?_;conv=>whnf)))
   exact FinP.i (sgn_pos (by rw[zv_F];omega))
  ·(repeat' (first|(refine CmpP.go (fun hc => ?_) (fun hc => ?_)<;>first|(exfalso;omega)|(conv=>whnf))|(refine AKM.x ?_;conv=>whnf)|(refine CallP.go (hcmp _ _) ?_;conv=>whnf)))
   exact FinP.i (sgn_neg (by rw[zv_T];omega))
theorem ev_integer_Add (N:RatGLib L) (n1 n2 q1 q2:Bool) (a b:List Nat) (ha:Sm 549755813888 a) (hb:Sm 549755813888 b):Ev L 87 [.agg (rZ q1 n1 a),.agg (rZ q2 n2 b)] (.agg (eZ (zv n1 a+zv n2 b))):=by
 have la:=ha.2
 have lb:=hb.2
 have h1:=fun q q'=>ev_nat_Add N.toNatGLib a b q q' ha.1 hb.1 (by omega) (by omega)
 have h2:=fun q q'=>ev_nat_Sub N.toNatGLib a b q q' ha.1 hb.1 (by omega) (by omega)
 have h3:=fun q q'=>ev_nat_Sub N.toNatGLib b a q q' hb.1 ha.1 (by omega) (by omega)
 have hcmp:=fun q q'=>ev_nat_Compare N.toNatGLib a b q q' ha.1 hb.1 (by omega) (by omega)
 have z1:=dg_len0 (val a+val b)
 have z2:=dg_len0 (val a-val b)
 have z3:=dg_len0 (val b-val a)
 refine Ev.x N.integer_Add rfl rfl ?_
 by_cases hlt:val a<val b
 ·have hn:cmpS (val a) (val b) = -1:=(cmpS_lt (by omega)).symm
  rw[hn]at hcmp
  cases n1<;>cases n2<;>simp only[zv_F,zv_T]
  ·(repeat' (first|(refine AKM.x ?_;conv=>whnf)|(refine CallP.go (h1 _ _) ?_;conv=>whnf)))
   refine CalP.walkC 1000 N.integer_signed rfl rfl ?_
   (repeat' (refine AKM.x ?_;conv=>whnf))
   all_goals (refine ⟨rfl,?_⟩;(conv=>whnf);skip)
   exact FinP.go (agg_eZ (by omega) (sgn_F (by omega))) (cl_eZ _)
  ·(repeat' (first|(refine CmpP.go (fun hc => ?_) (fun hc => ?_)<;>first|(exfalso;omega)|(conv=>whnf))|(refine AKM.x ?_;conv=>whnf)|(refine CallP.go (h3 _ _) ?_;conv=>whnf)|(refine CallP.go (hcmp _ _) ?_;conv=>whnf)))
   refine CalP.walkC 1000 N.integer_signed rfl rfl ?_
   (repeat' (first|(refine CmpP.go (fun hc => ?_) (fun hc => ?_)<;>first|(exfalso;omega)|(conv=>whnf))|(refine LenP.go ?_;conv=>whnf)|(refine AKM.x ?_;conv=>whnf)))
   all_goals (refine ⟨rfl,?_⟩;(conv=>whnf);skip)
   ·exact FinP.go (agg_eZ (by omega) (sgn_T (by omega))) (cl_eZ _)
  ·(repeat' (first|(refine CmpP.go (fun hc => ?_) (fun hc => ?_)<;>first|(exfalso;omega)|(conv=>whnf))|(refine AKM.x ?_;conv=>whnf)|(refine CallP.go (h3 _ _) ?_;conv=>whnf)|(refine CallP.go (hcmp _ _) ?_;conv=>whnf)))
   refine CalP.walkC 1000 N.integer_signed rfl rfl ?_
   (repeat' (refine AKM.x ?_;conv=>whnf))
   all_goals (refine ⟨rfl,?_⟩;(conv=>whnf);skip)
   ·exact FinP.go (agg_eZ (by omega) (sgn_F (by omega))) (cl_eZ _)
  ·(repeat' (first|(refine AKM.x ?_;conv=>whnf)|(refine CallP.go (h1 _ _) ?_;conv=>whnf)))
   refine CalP.walkC 1000 N.integer_signed rfl rfl ?_
   (repeat' (first|(refine CmpP.go (fun hc => ?_) (fun hc => ?_)<;>first|(exfalso;omega)|(conv=>whnf))|(refine LenP.go ?_;conv=>whnf)|(refine AKM.x ?_;conv=>whnf)))
   all_goals (refine ⟨rfl,?_⟩;(conv=>whnf);skip)
   ·exact FinP.go (agg_eZ (by omega) (sgn_T (by omega))) (cl_eZ _)
 ·have hn:cmpS (val a) (val b) ≠ -1:=by unfold cmpS;split<;>(try split)<;>omega
  generalize cmpS (val a) (val b)=cm at *
  cases n1<;>cases n2<;>simp only[zv_F,zv_T]
  ·(repeat' (first|(refine AKM.x ?_;conv=>whnf)|(refine CallP.go (h1 _ _) ?_;conv=>whnf)))
   refine CalP.walkC 1000 N.integer_signed rfl rfl ?_
   (repeat' (refine AKM.x ?_;conv=>whnf))
   all_goals (refine ⟨rfl,?_⟩;(conv=>whnf);skip)
   exact FinP.go (agg_eZ (by omega) (sgn_F (by omega))) (cl_eZ _)
  ·(repeat' (first|(refine CmpP.go (fun hc => ?_) (fun hc => ?_)<;>first|(exfalso;omega)|(conv=>whnf))|(refine AKM.x ?_;conv=>whnf)|(refine CallP.go (h2 _ _) ?_;conv=>whnf)|(refine CallP.go (hcmp _ _) ?_;conv=>whnf)))
   refine CalP.walkC 1000 N.integer_signed rfl rfl ?_
   (repeat' (refine AKM.x ?_;conv=>whnf))
   all_goals (refine ⟨rfl,?_⟩;(conv=>whnf);skip)
   exact FinP.go (agg_eZ (by omega) (sgn_F (by omega))) (cl_eZ _)
  ·(repeat' (first|(refine CmpP.go (fun hc => ?_) (fun hc => ?_)<;>first|(exfalso;omega)|(conv=>whnf))|(refine AKM.x ?_;conv=>whnf)|(refine CallP.go (h2 _ _) ?_;conv=>whnf)|(refine CallP.go (hcmp _ _) ?_;conv=>whnf)))
   refine CalP.walkC 1000 N.integer_signed rfl rfl ?_
   (repeat' (first|(refine CmpP.go (fun hc => ?_) (fun hc => ?_)<;>first|(exfalso;omega)|(conv=>whnf))|(refine LenP.go ?_;conv=>whnf)|(refine AKM.x ?_;conv=>whnf)))
   all_goals (refine ⟨rfl,?_⟩;(conv=>whnf);skip)
   ·exact FinP.go (agg_eZ (by omega) (sgn_T (by omega))) (cl_eZ _)
   ·exact FinP.go (agg_eZ (by omega) (sgn_F (by omega))) (cl_eZ _)
  ·(repeat' (first|(refine AKM.x ?_;conv=>whnf)|(refine CallP.go (h1 _ _) ?_;conv=>whnf)))
   refine CalP.walkC 1000 N.integer_signed rfl rfl ?_
   (repeat' (first|(refine CmpP.go (fun hc => ?_) (fun hc => ?_)<;>first|(exfalso;omega)|(conv=>whnf))|(refine LenP.go ?_;conv=>whnf)|(refine AKM.x ?_;conv=>whnf)))
   all_goals (refine ⟨rfl,?_⟩;(conv=>whnf);skip)
   ·exact FinP.go (agg_eZ (by omega) (sgn_T (by omega))) (cl_eZ _)
   ·exact FinP.go (agg_eZ (by omega) (sgn_F (by omega))) (cl_eZ _)
theorem ev_integer_Mul (N:RatGLib L) (n1 n2 q1 q2:Bool) (a b:List Nat) (ha:Dig a) (hb:Dig b) (hl:a.length+b.length≤1099511627776):Ev L 88 [.agg (rZ q1 n1 a),.agg (rZ q2 n2 b)] (.agg (eZ (zv n1 a*zv n2 b))):=by
 have h1:=fun q q'=>ev_nat_Mul N.toNatGLib a b q q' ha hb hl
 have z1:=dg_len0 (val a*val b)
 have habs:(zv n1 a*zv n2 b).natAbs=val a*val b:=by rw[Int.natAbs_mul,zv_abs,zv_abs]
 refine Ev.x N.integer_Mul rfl rfl ?_
 have e:zv n1 a*zv n2 b=bif n1 == n2 then ((val a*val b:Nat):Int) else -((val a*val b:Nat):Int):=by
  cases n1<;>cases n2<;>simp [zv_F,zv_T,Int.mul_neg,Int.neg_mul]
 rw[e]at habs ⊢
 generalize val a*val b=V at *
 cases n1<;>cases n2<;>simp only[beq_self_eq_true,cond_true,show (false == true)=false from rfl,show (true == false)=false from rfl,cond_false]
 ·(repeat' (first|(refine AKM.x ?_;conv=>whnf)|(refine CallP.go (h1 _ _) ?_;conv=>whnf)))
  refine CalP.walkC 1000 N.integer_signed rfl rfl ?_
  (repeat' (refine AKM.x ?_;conv=>whnf))
  all_goals (refine ⟨rfl,?_⟩;(conv=>whnf);skip)
  exact FinP.go (agg_eZ (by omega) (sgn_F (by omega))) (cl_eZ _)
 ·(repeat' (first|(refine AKM.x ?_;conv=>whnf)|(refine CallP.go (h1 _ _) ?_;conv=>whnf)))
  refine CalP.walkC 1000 N.integer_signed rfl rfl ?_
  (repeat' (first|(refine CmpP.go (fun hc => ?_) (fun hc => ?_)<;>first|(exfalso;omega)|(conv=>whnf))|(refine LenP.go ?_;conv=>whnf)|(refine AKM.x ?_;conv=>whnf)))
  all_goals (refine ⟨rfl,?_⟩;(conv=>whnf);skip)
  ·exact FinP.go (agg_eZ (by omega) (sgn_T (by omega))) (cl_eZ _)
  ·exact FinP.go (agg_eZ (by omega) (sgn_F (by omega))) (cl_eZ _)
 ·(repeat' (first|(refine AKM.x ?_;conv=>whnf)|(refine CallP.go (h1 _ _) ?_;conv=>whnf)))
  refine CalP.walkC 1000 N.integer_signed rfl rfl ?_
  (repeat' (first|(refine CmpP.go (fun hc => ?_) (fun hc => ?_)<;>first|(exfalso;omega)|(conv=>whnf))|(refine LenP.go ?_;conv=>whnf)|(refine AKM.x ?_;conv=>whnf)))
  all_goals (refine ⟨rfl,?_⟩;(conv=>whnf);skip)
  ·exact FinP.go (agg_eZ (by omega) (sgn_T (by omega))) (cl_eZ _)
  ·exact FinP.go (agg_eZ (by omega) (sgn_F (by omega))) (cl_eZ _)
 ·(repeat' (first|(refine AKM.x ?_;conv=>whnf)|(refine CallP.go (h1 _ _) ?_;conv=>whnf)))
  refine CalP.walkC 1000 N.integer_signed rfl rfl ?_
  (repeat' (refine AKM.x ?_;conv=>whnf))
  all_goals (refine ⟨rfl,?_⟩;(conv=>whnf);skip)
  exact FinP.go (agg_eZ (by omega) (sgn_F (by omega))) (cl_eZ _)
end Go.Eng

namespace Go.Eng
open F
attribute [local irreducible] AKM CmpP Req OpP UnP ConvP RdP LdR StR MkR LenP AppR AppN CpyR RowP SnR Bds SlS CallP CalP FinP pw LdM GetM SetM PutM MkM AppM SnM FlP CallR
set_option maxHeartbeats 4000000
variable {L:Lib}
theorem dg_one:dg 1=[1]:=by rw[dg_pos (by omega)];simp [dg_zero]
theorem ev_isOne (N:RatGLib L) (V:Nat) (q:Bool):Ev L 90 [.sl q ((dg V).map e32)] (.bool (decide (V=1))):=by
 have hv:=val_dg V
 have hD:=dig_dg V
 have h1:V=1→dg V=[1]:=fun h=>by rw[h,dg_one]
 generalize dg V=l at *
 refine Ev.x N.rational_isOne rfl rfl ?_
 by_cases hl:l.length=1
 ·obtain ⟨d,rfl⟩:=List.length_eq_one_iff.1 hl
  have e:V=d:=by rw[←hv];simp [val]
  subst e
  have hd:[V][(0:Int).toNat]? = some V:=rfl
  (repeat' (first|(refine CmpP.go (fun hc => ?_) (fun hc => ?_)<;>first|(exfalso;omega)|(conv=>whnf))|(refine LenP.go ?_;conv=>whnf)|(refine RdP.at (by assumption) ?_ rfl ?_;omega;conv=>whnf)|(refine AKM.x ?_;conv=>whnf)))
  ·exact FinP.dt (by omega)
  ·exact FinP.df (by omega)
 ·(repeat' (first|(refine CmpP.go (fun hc => ?_) (fun hc => ?_)<;>first|(exfalso;omega)|(conv=>whnf))|(refine LenP.go ?_;conv=>whnf)|(refine AKM.x ?_;conv=>whnf)))
  exact FinP.df (fun h=>by rw[h1 h]at hl;simp at hl)
theorem ev_lowest (N:RatGLib L) (n q1 q2:Bool) (m d:List Nat) (hm:Sm 549755813888 m) (hd:Sm 549755813888 d) (h0:val d≠0):Ev L 94 [.agg (rQ q1 q2 n m d)] (.agg (eQ (qv n m d))):=by
 have hDM:=fun q q'=>ev_nat_DivMod N.toNatGLib m d q q' hm.1 hd.1 hm.2 hd.2 h0
 have hza:=zv_abs n m
 have sq:Sm 549755813888 (dg (val m/val d)):=hm.low (Nat.div_le_self _ _)
 have sr:Sm 549755813888 (dg (val m%val d)):=hd.low (Nat.le_of_lt (Nat.mod_lt _ (by omega)))
 have hT:=fun q=>ev_integer_Trim N n q _ sq
 have hG:=fun q q'=>ev_nat_Gcd N.toNatGLib d (dg (val m%val d)) q q' hd.1 sr.1 hd.2 sr.2
 rw[val_dg,show Nat.gcd (val d) (val m%val d)=Nat.gcd (val d) (zv n m).natAbs by rw[hza,gcd_mod_step,Nat.gcd_comm]]at hG
 have hgp:=gcd_pos' (zv n m).natAbs h0
 have hgd:=Nat.gcd_le_left (zv n m).natAbs (show 0<val d by omega)
 have hz:=dg_len0 (val m%val d)
 obtain ⟨e1,e2,e3⟩:=mk_parts (z:=zv n m) h0
 unfold qv
 generalize hGG:Nat.gcd (val d) (zv n m).natAbs=g at *
 have h1:=fun q=>ev_isOne N g q
 refine Ev.x N.rational_pair_lowest rfl rfl ?_
 by_cases hr0:val m%val d=0
 ·(repeat' (first|(refine CmpP.go (fun hc => ?_) (fun hc => ?_)<;>first|(exfalso;omega)|(conv=>whnf))|(refine LenP.go ?_;conv=>whnf)|(refine AKM.x ?_;conv=>whnf)|(refine CallP.go (hDM _ _) ?_;conv=>whnf)|(refine CallP.go (hT _) ?_;conv=>whnf)))
  refine CalP.walkC 1000 N.rational_whole rfl rfl ?_
  (repeat' (refine AKM.x ?_;conv=>whnf))
  refine ⟨rfl,?_⟩
  (conv=>whnf)
  (repeat' (refine SnR.e1 rfl ?_;conv=>whnf))
  have hge:g=val d:=by
   rw[←hGG,hza]
   exact Nat.gcd_eq_left (Nat.dvd_of_mod_eq_zero hr0)
  have hv:=val_dg (val m/val d)
  refine FinP.go ?_ ?_
  ·show _=AV.agg (rQ _ _ _ _ _)
   rw[e1,e2,e3,hza,hge,Nat.div_self (by omega),zv_abs,hv,dg_one]
   have hs:decide (zv n (dg (val m/val d))<0)=decide (zv n m<0):=by
    cases n
    ·rw[zv_F,zv_F];simp;omega
    ·rw[zv_T,zv_T,hv]
     congr 1
     rw[eq_iff_iff]
     have h5:=Nat.div_add_mod (val m) (val d)
     rw[hr0,Nat.add_zero]at h5
     constructor
     ·intro h6
      have h7:val m/val d≠0:=by omega
      have:val m≠0:=fun h8=>h7 (by rw[h8,Nat.zero_div])
      omega
     ·intro h6
      have h7:val m/val d≠0:=fun h8=>by rw[h8,Nat.mul_zero]at h5;omega
      omega
   rw[hs]
   rfl
  ·exact cl_eQ _
 ·by_cases hg1:g=1
  ·have hT1:=fun q=>ev_integer_Trim N n q m hm
   have hT2:=fun q=>ev_Trim N.toNatGLib d q hd.1 (by have:=hd.2;omega)
   (repeat' (first|(refine CmpP.go (fun hc => ?_) (fun hc => ?_)<;>first|(exfalso;omega)|(conv=>whnf))|(refine LenP.go ?_;conv=>whnf)|(refine AKM.x ?_;conv=>whnf)|(refine CallP.go (hDM _ _) ?_;conv=>whnf)|(refine CallP.go (hG _ _) ?_;conv=>whnf)|(refine CallP.b (h1 _) (fun hf => ?_) (fun hf => ?_)<;>(conv=>whnf))|(refine CallP.go (hT1 _) ?_;conv=>whnf)|(refine CallP.go (hT2 _) ?_;conv=>whnf)))
   ·refine FinP.go ?_ (cl_agg3 _ _ _)
    show _=AV.agg (rQ _ _ _ _ _)
    rw[e1,e2,e3,hg1,Nat.div_one,Nat.div_one]
   ·exact absurd hg1 hf
  ·have sg:Sm 549755813888 (dg g):=hd.low hgd
   have hD1:=fun q q'=>ev_nat_DivMod N.toNatGLib m (dg g) q q' hm.1 sg.1 hm.2 sg.2 (by rw[val_dg];omega)
   have hD2:=fun q q'=>ev_nat_DivMod N.toNatGLib d (dg g) q q' hd.1 sg.1 hd.2 sg.2 (by rw[val_dg];omega)
   rw[val_dg]at hD1 hD2
   (repeat' (first|(refine CmpP.go (fun hc => ?_) (fun hc => ?_)<;>first|(exfalso;omega)|(conv=>whnf))|(refine LenP.go ?_;conv=>whnf)|(refine AKM.x ?_;conv=>whnf)|(refine CallP.go (hDM _ _) ?_;conv=>whnf)|(refine CallP.go (hG _ _) ?_;conv=>whnf)|(refine CallP.b (h1 _) (fun hf => ?_) (fun hf => ?_)<;>(conv=>whnf))|(refine CallP.go (hD1 _ _) ?_;conv=>whnf)|(refine CallP.go (hD2 _ _) ?_;conv=>whnf)))
   ·exact absurd hf hg1
   ·refine FinP.go ?_ (cl_agg3 _ _ _)
    show _=AV.agg (rQ _ _ _ _ _)
    rw[e1,e2,e3,hza]
    have hs:n=decide (zv n m<0):=by
     have:val m≠0:=fun h=>hr0 (by rw[h,Nat.zero_mod])
     cases n
     ·exact sgn_F (by rw[zv_F];omega)
     ·exact sgn_T (by rw[zv_T];omega)
    rw[←hs]
theorem ev_natural (N:RatGLib L) (m:List Nat):Ev L 91 [.sl false (m.map e32)] (.agg [.bool false,.sl false (m.map e32)]):=by
 refine Ev.x N.rational_natural rfl rfl ?_
 (repeat' (refine AKM.x ?_;conv=>whnf))
 exact FinP.go rfl (cl_agg2 _ _)
def RdIs (n:Bool) (m d:List Nat) (n':Bool) (m' d':List Nat) (w:Bool) (k:Nat):Prop:=Sm k m'∧Sm k d'∧val d'≠0∧(w=true→val d'=1)∧qv n m d=mkRat (zv n' m') (val d')
theorem ev_read (N:RatGLib L) (n:Bool) (m d:List Nat) (k:Nat) (hk:1≤k∧k≤549755813888) (hm:Sm k m) (hd:Sm k d) : ∃ n' m' d' w,Ev L 89 [.agg (rQ false false n m d)] (.agg [.bool n',.sl false (m'.map e32),.sl false (d'.map e32),.bool w])∧RdIs n m d n' m' d' w k:=by
 have hcmp:=fun q q'=>ev_nat_Compare N.toNatGLib d [] q q' hd.1 dig_nil (by have:=hd.2;omega) (by simp)
 rw[val_nil]at hcmp
 by_cases h1:d=[1]
 ·subst h1
  refine ⟨n,m,[1],true,?_,hm,hd,by decide,fun _=>rfl,rfl⟩
  refine Ev.x N.rational_read rfl rfl ?_
  have hd:[1][(0:Int).toNat]? = some 1:=rfl
  have hll:([1]:List Nat).length=1:=rfl
  (repeat' (first|(refine CmpP.go (fun hc => ?_) (fun hc => ?_)<;>first|(exfalso;omega)|(conv=>whnf))|(refine LenP.go ?_;conv=>whnf)|(refine RdP.at (by assumption) ?_ rfl ?_;omega;conv=>whnf)|(refine AKM.x ?_;conv=>whnf)))
  exact FinP.go rfl (cl_agg4 _ _ _ _)
 have hne : ∀ x,d[(0:Int).toNat]? = some x→(d.length:Int)=1→(x:Int)≠1:=fun x hx hl h=>by
  obtain ⟨y,rfl⟩:=List.length_eq_one_iff.1 (show d.length=1 by omega)
  simp at hx
  apply h1
  congr 1
  omega
 by_cases h0:val d=0
 ·refine ⟨false,[],[1],true,?_,sm_nil _,sm_one hk.1 (by omega),by decide,fun _=>rfl,by unfold qv;rw[h0,Rat.mkRat_zero,zv_nil,Rat.zero_mkRat]⟩
  have hn:cmpS (val d) (0:Nat)=0:=(cmpS_eq (by omega)).symm
  rw[hn]at hcmp
  refine Ev.x N.rational_read rfl rfl ?_
  have hD:=hd.1
  (repeat' (first|(refine CmpP.go (fun hc => ?_) (fun hc => ?_)<;>first|(exfalso;omega)|(conv=>whnf))|(refine LenP.go ?_;conv=>whnf)|(refine RdP.digi (by assumption) ?_ (fun e he hb => ?_);omega;conv=>whnf)|(refine SnR.e1 rfl ?_;conv=>whnf)|(refine AKM.x ?_;conv=>whnf)|(refine CallP.go (hcmp _ _) ?_;conv=>whnf)))
  all_goals first
   | exact FinP.go rfl (cl_agg4 _ _ _ _)
   | exact FinP.go rfl (cl_agg4 false true [] [1])
   | exact absurd (by assumption) (hne _ he (by assumption))
 ·refine ⟨n,m,d,false,?_,hm,hd,h0,(fun h=>by cases h),rfl⟩
  have hn:cmpS (val d) (0:Nat)=1:=(cmpS_gt (by omega)).symm
  rw[hn]at hcmp
  have hD:=hd.1
  refine Ev.x N.rational_read rfl rfl ?_
  (repeat' (first|(refine CmpP.go (fun hc => ?_) (fun hc => ?_)<;>first|(exfalso;omega)|(conv=>whnf))|(refine LenP.go ?_;conv=>whnf)|(refine RdP.digi (by assumption) ?_ (fun e he hb => ?_);omega;conv=>whnf)|(refine AKM.x ?_;conv=>whnf)|(refine CallP.go (hcmp _ _) ?_;conv=>whnf)))
  all_goals first
   | exact FinP.go rfl (cl_agg4 _ _ _ _)
   | exact FinP.go rfl (cl_agg4 false true [] [1])
   | exact absurd (by assumption) (hne _ he (by assumption))
theorem ev_rational_Trim (N:RatGLib L) (n q1 q2:Bool) (m d:List Nat) (hm:Sm 549755813888 m) (hd:Sm 549755813888 d):Ev L 95 [.agg (rQ q1 q2 n m d)] (.agg (eQ (qv n m d))):=by
 obtain ⟨n',m',d',w,hr,s1,s2,s3,s4,s5⟩:=ev_read N n m d 549755813888 (by omega) hm hd
 have hl:=fun q1 q2=>ev_lowest N n' q1 q2 m' d' s1 s2 s3
 rw[s5]
 unfold qv at hl
 refine Ev.x N.rational_Trim rfl rfl ?_
 (repeat' (first|(refine FlP.n4 ?_;conv=>whnf)|(refine AKM.x ?_;conv=>whnf)|(refine CallP.go (hr) ?_;conv=>whnf)|(refine CallP.go (hl _ _) ?_;conv=>whnf)))
 exact FinP.go rfl (cl_eQ _)
theorem ev_rational_Sign (N:RatGLib L) (n q1 q2:Bool) (m d:List Nat) (hm:Sm 549755813888 m) (hd:Sm 549755813888 d):Ev L 97 [.agg (rQ q1 q2 n m d)] (.int .i64 (sgn (qv n m d).num)):=by
 obtain ⟨n',m',d',w,hr,s1,s2,s3,s4,s5⟩:=ev_read N n m d 549755813888 (by omega) hm hd
 have hl:=fun q=>ev_integer_Sign N n' q m' s1
 rw[s5,mk_sgn s3]
 refine Ev.x N.rational_Sign rfl rfl ?_
 (repeat' (first|(refine FlP.n4 ?_;conv=>whnf)|(refine AKM.x ?_;conv=>whnf)|(refine CallP.go (hr) ?_;conv=>whnf)|(refine CallP.go (hl _) ?_;conv=>whnf)))
 exact FinP.i rfl
theorem agg_whole (z:Int):AV.agg [.bool (decide (z<0)),.sl false ((dg z.natAbs).map e32),.sl false [[.int .u32 1]]] = .agg (eQ (z:Rat)):=by
 show _=AV.agg (rQ _ _ _ _ _)
 rw[Rat.num_intCast,Rat.den_intCast,dg_one];rfl
theorem ev_rational_Of (N:RatGLib L) (z:Int) (hz : -9223372036854775808≤z∧z≤9223372036854775807):Ev L 96 [.int .i64 z] (.agg (eQ (z:Rat))):=by
 have h1:=ev_integer_Of N z hz
 refine Ev.x N.rational_Of rfl rfl ?_
 (repeat' (first|(refine AKM.x ?_;conv=>whnf)|(refine CallP.go (h1) ?_;conv=>whnf)))
 refine CalP.walkC 1000 N.rational_whole rfl rfl ?_
 (repeat' (refine AKM.x ?_;conv=>whnf))
 refine ⟨rfl,?_⟩
 (conv=>whnf)
 (repeat' (refine SnR.e1 rfl ?_;conv=>whnf))
 exact FinP.go (agg_whole z) (cl_eQ _)
theorem sm_zmul {k l:Nat} {n1 n2:Bool} {a b:List Nat} (ha:Sm k a) (hb:Sm l b):Sm (k+l) (dg (zv n1 a*zv n2 b).natAbs):=ha.mul hb (by rw[Int.natAbs_mul,zv_abs,zv_abs])
theorem sm_zadd {k:Nat} {x y:Int} (ha:Sm k (dg x.natAbs)) (hb:Sm k (dg y.natAbs)):Sm (k+1) (dg (x+y).natAbs):=ha.add hb (by rw[val_dg,val_dg];omega)
theorem ev_rational_Add (N:RatGLib L) (k:Nat) (hk:1≤k∧k≤68719476736) (n1 n2 q1 q2 q3 q4:Bool) (m1 d1 m2 d2:List Nat) (hm1:Sm k m1) (hd1:Sm k d1) (hm2:Sm k m2) (hd2:Sm k d2) :
  Ev L 98 [.agg (rQ q1 q2 n1 m1 d1),.agg (rQ q3 q4 n2 m2 d2)] (.agg (eQ (qv n1 m1 d1+qv n2 m2 d2))):=by
 obtain ⟨a1,a2,a3,w1,hr1,s1,s2,s3,s4,s5⟩:=ev_read N n1 m1 d1 k (by omega) hm1 hd1
 obtain ⟨b1,b2,b3,w2,hr2,t1,t2,t3,t4,t5⟩:=ev_read N n2 m2 d2 k (by omega) hm2 hd2
 rw[s5,t5]
 have hA:=fun q q'=>ev_integer_Add N a1 b1 q q' a2 b2 (s1.le (by omega)) (t1.le (by omega))
 have hsum:Sm (k+1) (dg (zv a1 a2+zv b1 b2).natAbs):=sm_zadd (by rw[zv_abs];exact s1.nrm) (by rw[zv_abs];exact t1.nrm)
 by_cases hw:w1=true∧w2=true
 ·obtain ⟨rfl,rfl⟩:=hw
  rw[s4 rfl,t4 rfl,mk_add_same (by omega),mk_one]
  generalize zv a1 a2+zv b1 b2=z at *
  refine Ev.x N.rational_Add rfl rfl ?_
  (repeat' (first|(refine FlP.n4 ?_;conv=>whnf)|(refine AKM.x ?_;conv=>whnf)|(refine CallP.go (hr1) ?_;conv=>whnf)|(refine CallP.go (hr2) ?_;conv=>whnf)|(refine CallP.go (hA _ _) ?_;conv=>whnf)))
  refine CalP.walkC 1000 N.rational_whole rfl rfl ?_
  (repeat' (refine AKM.x ?_;conv=>whnf))
  refine ⟨rfl,?_⟩
  (conv=>whnf)
  (repeat' (refine SnR.e1 rfl ?_;conv=>whnf))
  exact FinP.go (agg_whole z) (cl_eQ _)
 ·have hcmp:=fun q q'=>ev_nat_Compare N.toNatGLib a3 b3 q q' s2.1 t2.1 (by have:=s2.2;omega) (by have:=t2.2;omega)
  by_cases hde:val a3=val b3
  ·have hn:cmpS (val a3) (val b3)=0:=(cmpS_eq (by omega)).symm
   rw[hn]at hcmp
   rw[←hde,mk_add_same s3]
   generalize zv a1 a2+zv b1 b2=z at *
   have hl:=fun q1 q2=>ev_lowest N (decide (z<0)) q1 q2 (dg z.natAbs) a3 (hsum.le (by omega)) (s2.le (by omega)) s3
   unfold qv at hl
   rw[zv_of]at hl
   refine Ev.x N.rational_Add rfl rfl ?_
   cases w1<;>cases w2
   ·(repeat' (first|(refine CmpP.go (fun hc => ?_) (fun hc => ?_)<;>first|(exfalso;omega)|(conv=>whnf))|(refine FlP.n4 ?_;conv=>whnf)|(refine AKM.x ?_;conv=>whnf)|(refine CallP.go (hr1) ?_;conv=>whnf)|(refine CallP.go (hr2) ?_;conv=>whnf)|(refine CallP.go (hA _ _) ?_;conv=>whnf)|(refine CallP.go (hcmp _ _) ?_;conv=>whnf)|(refine CallP.go (hl _ _) ?_;conv=>whnf)))
    exact FinP.go rfl (cl_eQ _)
   ·(repeat' (first|(refine CmpP.go (fun hc => ?_) (fun hc => ?_)<;>first|(exfalso;omega)|(conv=>whnf))|(refine FlP.n4 ?_;conv=>whnf)|(refine AKM.x ?_;conv=>whnf)|(refine CallP.go (hr1) ?_;conv=>whnf)|(refine CallP.go (hr2) ?_;conv=>whnf)|(refine CallP.go (hA _ _) ?_;conv=>whnf)|(refine CallP.go (hcmp _ _) ?_;conv=>whnf)|(refine CallP.go (hl _ _) ?_;conv=>whnf)))
    exact FinP.go rfl (cl_eQ _)
   ·(repeat' (first|(refine CmpP.go (fun hc => ?_) (fun hc => ?_)<;>first|(exfalso;omega)|(conv=>whnf))|(refine FlP.n4 ?_;conv=>whnf)|(refine AKM.x ?_;conv=>whnf)|(refine CallP.go (hr1) ?_;conv=>whnf)|(refine CallP.go (hr2) ?_;conv=>whnf)|(refine CallP.go (hA _ _) ?_;conv=>whnf)|(refine CallP.go (hcmp _ _) ?_;conv=>whnf)|(refine CallP.go (hl _ _) ?_;conv=>whnf)))
    exact FinP.go rfl (cl_eQ _)
   ·exact absurd ⟨rfl,rfl⟩ hw
  ·have hn:cmpS (val a3) (val b3)≠0:=by unfold cmpS;split<;>(try split)<;>omega
   generalize cmpS (val a3) (val b3)=cm at *
   have hM1:=fun q q'=>ev_integer_Mul N a1 false q q' a2 b3 s1.1 t2.1 (by have:=s1.2;have:=t2.2;omega)
   have hM2:=fun q q'=>ev_integer_Mul N b1 false q q' b2 a3 t1.1 s2.1 (by have:=t1.2;have:=s2.2;omega)
   have hM3:=fun q q'=>ev_nat_Mul N.toNatGLib a3 b3 q q' s2.1 t2.1 (by have:=s2.2;have:=t2.2;omega)
   have hna:=ev_natural N a3
   have hnb:=ev_natural N b3
   have g1:Sm (k+k) (dg (zv a1 a2*zv false b3).natAbs):=sm_zmul s1 t2
   have g2:Sm (k+k) (dg (zv b1 b2*zv false a3).natAbs):=sm_zmul t1 s2
   have g3:=sm_zadd g1 g2
   have g4:Sm (k+k) (dg (val a3*val b3)):=s2.mul t2 rfl
   rw[mk_add s3 t3,←zv_F b3,←zv_F a3]
   have hden:val a3*val b3≠0:=Nat.mul_ne_zero s3 t3
   generalize zv a1 a2*zv false b3=x at *
   generalize zv b1 b2*zv false a3=y at *
   generalize val a3*val b3=D at *
   have hA2:=fun q q'=>ev_integer_Add N (decide (x<0)) (decide (y<0)) q q' (dg x.natAbs) (dg y.natAbs) (g1.le (by omega)) (g2.le (by omega))
   rw[zv_of,zv_of]at hA2
   generalize x+y=z at *
   have hl:=fun q1 q2=>ev_lowest N (decide (z<0)) q1 q2 (dg z.natAbs) (dg D) (g3.le (by omega)) (g4.le (by omega)) (by rw[val_dg];exact hden)
   unfold qv at hl
   rw[zv_of,val_dg]at hl
   refine Ev.x N.rational_Add rfl rfl ?_
   cases w1<;>cases w2
   ·(repeat' (first|(refine CmpP.go (fun hc => ?_) (fun hc => ?_)<;>first|(exfalso;omega)|(conv=>whnf))|(refine FlP.n4 ?_;conv=>whnf)|(refine FlP.n2 ?_;conv=>whnf)|(refine AKM.x ?_;conv=>whnf)|(refine CallP.go (hr1) ?_;conv=>whnf)|(refine CallP.go (hr2) ?_;conv=>whnf)|(refine CallP.go (hcmp _ _) ?_;conv=>whnf)|(refine CallP.go (hna) ?_;conv=>whnf)|(refine CallP.go (hnb) ?_;conv=>whnf)|(refine CallP.go (hM1 _ _) ?_;conv=>whnf)|(refine CallP.go (hM2 _ _) ?_;conv=>whnf)|(refine CallP.go (hA2 _ _) ?_;conv=>whnf)|(refine CallP.go (hM3 _ _) ?_;conv=>whnf)|(refine CallP.go (hl _ _) ?_;conv=>whnf)))
    exact FinP.go rfl (cl_eQ _)
   ·(repeat' (first|(refine CmpP.go (fun hc => ?_) (fun hc => ?_)<;>first|(exfalso;omega)|(conv=>whnf))|(refine FlP.n4 ?_;conv=>whnf)|(refine FlP.n2 ?_;conv=>whnf)|(refine AKM.x ?_;conv=>whnf)|(refine CallP.go (hr1) ?_;conv=>whnf)|(refine CallP.go (hr2) ?_;conv=>whnf)|(refine CallP.go (hcmp _ _) ?_;conv=>whnf)|(refine CallP.go (hna) ?_;conv=>whnf)|(refine CallP.go (hnb) ?_;conv=>whnf)|(refine CallP.go (hM1 _ _) ?_;conv=>whnf)|(refine CallP.go (hM2 _ _) ?_;conv=>whnf)|(refine CallP.go (hA2 _ _) ?_;conv=>whnf)|(refine CallP.go (hM3 _ _) ?_;conv=>whnf)|(refine CallP.go (hl _ _) ?_;conv=>whnf)))
    exact FinP.go rfl (cl_eQ _)
   ·(repeat' (first|(refine CmpP.go (fun hc => ?_) (fun hc => ?_)<;>first|(exfalso;omega)|(conv=>whnf))|(refine FlP.n4 ?_;conv=>whnf)|(refine FlP.n2 ?_;conv=>whnf)|(refine AKM.x ?_;conv=>whnf)|(refine CallP.go (hr1) ?_;conv=>whnf)|(refine CallP.go (hr2) ?_;conv=>whnf)|(refine CallP.go (hcmp _ _) ?_;conv=>whnf)|(refine CallP.go (hna) ?_;conv=>whnf)|(refine CallP.go (hnb) ?_;conv=>whnf)|(refine CallP.go (hM1 _ _) ?_;conv=>whnf)|(refine CallP.go (hM2 _ _) ?_;conv=>whnf)|(refine CallP.go (hA2 _ _) ?_;conv=>whnf)|(refine CallP.go (hM3 _ _) ?_;conv=>whnf)|(refine CallP.go (hl _ _) ?_;conv=>whnf)))
    exact FinP.go rfl (cl_eQ _)
   ·exact absurd ⟨rfl,rfl⟩ hw
theorem ev_rational_Mul (N:RatGLib L) (k:Nat) (hk:1≤k∧k≤68719476736) (n1 n2 q1 q2 q3 q4:Bool) (m1 d1 m2 d2:List Nat) (hm1:Sm k m1) (hd1:Sm k d1) (hm2:Sm k m2) (hd2:Sm k d2) :
  Ev L 99 [.agg (rQ q1 q2 n1 m1 d1),.agg (rQ q3 q4 n2 m2 d2)] (.agg (eQ (qv n1 m1 d1*qv n2 m2 d2))):=by
 obtain ⟨a1,a2,a3,w1,hr1,s1,s2,s3,s4,s5⟩:=ev_read N n1 m1 d1 k (by omega) hm1 hd1
 obtain ⟨b1,b2,b3,w2,hr2,t1,t2,t3,t4,t5⟩:=ev_read N n2 m2 d2 k (by omega) hm2 hd2
 rw[s5,t5,mk_mul]
 have hM1:=fun q q'=>ev_integer_Mul N a1 b1 q q' a2 b2 s1.1 t1.1 (by have:=s1.2;have:=t1.2;omega)
 have hM3:=fun q q'=>ev_nat_Mul N.toNatGLib a3 b3 q q' s2.1 t2.1 (by have:=s2.2;have:=t2.2;omega)
 have g1:Sm (k+k) (dg (zv a1 a2*zv b1 b2).natAbs):=sm_zmul s1 t1
 have g4:Sm (k+k) (dg (val a3*val b3)):=s2.mul t2 rfl
 have hden:val a3*val b3≠0:=Nat.mul_ne_zero s3 t3
 generalize zv a1 a2*zv b1 b2=z at *
 by_cases hw:w1=true∧w2=true
 ·obtain ⟨rfl,rfl⟩:=hw
  rw[s4 rfl,t4 rfl,Nat.one_mul,mk_one]
  refine Ev.x N.rational_Mul rfl rfl ?_
  (repeat' (first|(refine FlP.n4 ?_;conv=>whnf)|(refine AKM.x ?_;conv=>whnf)|(refine CallP.go (hr1) ?_;conv=>whnf)|(refine CallP.go (hr2) ?_;conv=>whnf)|(refine CallP.go (hM1 _ _) ?_;conv=>whnf)))
  refine CalP.walkC 1000 N.rational_whole rfl rfl ?_
  (repeat' (refine AKM.x ?_;conv=>whnf))
  refine ⟨rfl,?_⟩
  (conv=>whnf)
  (repeat' (refine SnR.e1 rfl ?_;conv=>whnf))
  exact FinP.go (agg_whole z) (cl_eQ _)
 ·generalize val a3*val b3=D at *
  have hl:=fun q1 q2=>ev_lowest N (decide (z<0)) q1 q2 (dg z.natAbs) (dg D) (g1.le (by omega)) (g4.le (by omega)) (by rw[val_dg];exact hden)
  unfold qv at hl
  rw[zv_of,val_dg]at hl
  refine Ev.x N.rational_Mul rfl rfl ?_
  cases w1<;>cases w2
  ·(repeat' (first|(refine FlP.n4 ?_;conv=>whnf)|(refine AKM.x ?_;conv=>whnf)|(refine CallP.go (hr1) ?_;conv=>whnf)|(refine CallP.go (hr2) ?_;conv=>whnf)|(refine CallP.go (hM1 _ _) ?_;conv=>whnf)|(refine CallP.go (hM3 _ _) ?_;conv=>whnf)|(refine CallP.go (hl _ _) ?_;conv=>whnf)))
   exact FinP.go rfl (cl_eQ _)
  ·(repeat' (first|(refine FlP.n4 ?_;conv=>whnf)|(refine AKM.x ?_;conv=>whnf)|(refine CallP.go (hr1) ?_;conv=>whnf)|(refine CallP.go (hr2) ?_;conv=>whnf)|(refine CallP.go (hM1 _ _) ?_;conv=>whnf)|(refine CallP.go (hM3 _ _) ?_;conv=>whnf)|(refine CallP.go (hl _ _) ?_;conv=>whnf)))
   exact FinP.go rfl (cl_eQ _)
  ·(repeat' (first|(refine FlP.n4 ?_;conv=>whnf)|(refine AKM.x ?_;conv=>whnf)|(refine CallP.go (hr1) ?_;conv=>whnf)|(refine CallP.go (hr2) ?_;conv=>whnf)|(refine CallP.go (hM1 _ _) ?_;conv=>whnf)|(refine CallP.go (hM3 _ _) ?_;conv=>whnf)|(refine CallP.go (hl _ _) ?_;conv=>whnf)))
   exact FinP.go rfl (cl_eQ _)
  ·exact absurd ⟨rfl,rfl⟩ hw
theorem cl_eQt (x:Rat) (e:Int):Clean (.tup [.agg (eQ x),.int .i64 e]):=by
 simp only[Clean,CleanL,and_true,true_and]
 exact ⟨cl_dig _,cl_dig _⟩
theorem ev_rational_Div (N:RatGLib L) (k:Nat) (hk:1≤k∧k≤68719476736) (n1 n2 q1 q2 q3 q4:Bool) (m1 d1 m2 d2:List Nat) (hm1:Sm k m1) (hd1:Sm k d1) (hm2:Sm k m2) (hd2:Sm k d2) (h0:qv n2 m2 d2≠0) :
  Ev L 100 [.agg (rQ q1 q2 n1 m1 d1),.agg (rQ q3 q4 n2 m2 d2)] (.tup [.agg (eQ (qv n1 m1 d1/qv n2 m2 d2)),.int .i64 0]):=by
 obtain ⟨a1,a2,a3,w1,hr1,s1,s2,s3,s4,s5⟩:=ev_read N n1 m1 d1 k (by omega) hm1 hd1
 obtain ⟨b1,b2,b3,w2,hr2,t1,t2,t3,t4,t5⟩:=ev_read N n2 m2 d2 k (by omega) hm2 hd2
 rw[t5]at h0
 rw[s5,t5]
 have hb0:zv b1 b2≠0:=fun h=>h0 ((mk_num_zero t3).2 h)
 rw[mk_div s3 t3 hb0]
 have hS:=fun q=>ev_integer_Sign N b1 q b2 (t1.le (by omega))
 have hsg:sgn (zv b1 b2)≠0:=by unfold sgn;split<;>(try split)<;>omega
 have hM1:=fun q q'=>ev_integer_Mul N a1 false q q' a2 b3 s1.1 t2.1 (by have:=s1.2;have:=t2.2;omega)
 have hM2:=fun q q'=>ev_integer_Mul N false b1 q q' a3 b2 s2.1 t1.1 (by have:=t1.2;have:=s2.2;omega)
 have hna:=ev_natural N a3
 have hnb:=ev_natural N b3
 have g1:Sm (k+k) (dg (zv a1 a2*zv false b3).natAbs):=sm_zmul s1 t2
 have g2:Sm (k+k) (dg (zv false a3*zv b1 b2).natAbs):=sm_zmul s2 t1
 have hd:(zv false a3*zv b1 b2).natAbs=val a3*(zv b1 b2).natAbs:=by rw[Int.natAbs_mul,zv_abs]
 have hds:(zv false a3*zv b1 b2).sign=(zv b1 b2).sign:=by
  rw[Int.sign_mul,zv_F,Int.sign_eq_one_of_pos (by omega),Int.one_mul]
 have hy0:zv false a3*zv b1 b2≠0:=by
  intro h
  rw[h]at hds
  exact hb0 (by simpa using hds.symm)
 rw[←hd,←hds,←zv_F b3]
 generalize zv a1 a2*zv false b3=x at *
 generalize zv false a3*zv b1 b2=y at *
 generalize sgn (zv b1 b2)=sg at *
 have hl:=fun q1 q2=>ev_lowest N (decide (x<0) != decide (y<0)) q1 q2 (dg x.natAbs) (dg y.natAbs) (g1.le (by omega)) (g2.le (by omega)) (by rw[val_dg];omega)
 unfold qv at hl
 rw[zv_quot hy0,val_dg]at hl
 refine Ev.x N.rational_Div rfl rfl ?_
 (repeat' (first|(refine CmpP.go (fun hc => ?_) (fun hc => ?_)<;>first|(exfalso;omega)|(conv=>whnf))|(refine FlP.n4 ?_;conv=>whnf)|(refine FlP.n2 ?_;conv=>whnf)|(refine AKM.x ?_;conv=>whnf)|(refine CallP.go (hr1) ?_;conv=>whnf)|(refine CallP.go (hr2) ?_;conv=>whnf)|(refine CallP.go (hS _) ?_;conv=>whnf)|(refine CallP.go (hna) ?_;conv=>whnf)|(refine CallP.go (hnb) ?_;conv=>whnf)|(refine CallP.go (hM1 _ _) ?_;conv=>whnf)|(refine CallP.go (hM2 _ _) ?_;conv=>whnf)))
 refine CalP.walkC 1000 N.rational_quotient rfl rfl ?_
 (repeat' (refine AKM.x ?_;conv=>whnf))
 generalize decide (x<0)=p at *
 generalize decide (y<0)=r at *
 cases p<;>cases r
 all_goals
  (conv=>whnf)
  refine ⟨rfl,?_⟩
  (conv=>whnf)
  (repeat' (refine CallP.go (hl _ _) ?_;conv=>whnf))
  exact FinP.go rfl (cl_eQt _ _)
end Go.Eng

namespace Go.Eng
open F
variable {L:Lib}
theorem Bt.sm {k:Nat} {x:Rat} (h:Bt k x) (hk:k<2199023255552):Sm 68719476736 (dg x.num.natAbs)∧Sm 68719476736 (dg x.den):=h.dig (by omega)
theorem ev_addQ (N:RatGLib L) {x y:Rat} {k l:Nat} (hx:Bt k x) (hy:Bt l y) (hk:k<2199023255552) (hl:l<2199023255552):Ev L 98 [.agg (eQ x),.agg (eQ y)] (.agg (eQ (x+y))):=by
 have:=ev_rational_Add N 68719476736 (by omega) (decide (x.num<0)) (decide (y.num<0)) false false false false _ _ _ _ (hx.sm hk).1 (hx.sm hk).2 (hy.sm hl).1 (hy.sm hl).2
 rw[qv_of,qv_of]at this
 exact this
theorem ev_mulQ (N:RatGLib L) {x y:Rat} {k l:Nat} (hx:Bt k x) (hy:Bt l y) (hk:k<2199023255552) (hl:l<2199023255552):Ev L 99 [.agg (eQ x),.agg (eQ y)] (.agg (eQ (x*y))):=by
 have:=ev_rational_Mul N 68719476736 (by omega) (decide (x.num<0)) (decide (y.num<0)) false false false false _ _ _ _ (hx.sm hk).1 (hx.sm hk).2 (hy.sm hl).1 (hy.sm hl).2
 rw[qv_of,qv_of]at this
 exact this
theorem ev_divQ (N:RatGLib L) {x y:Rat} {k l:Nat} (hx:Bt k x) (hy:Bt l y) (hk:k<2199023255552) (hl:l<2199023255552) (h0:y≠0):Ev L 100 [.agg (eQ x),.agg (eQ y)] (.tup [.agg (eQ (x/y)),.int .i64 0]):=by
 have:=ev_rational_Div N 68719476736 (by omega) (decide (x.num<0)) (decide (y.num<0)) false false false false _ _ _ _ (hx.sm hk).1 (hx.sm hk).2 (hy.sm hl).1 (hy.sm hl).2 (by rw[qv_of];exact h0)
 rw[qv_of,qv_of]at this
 exact this
theorem ev_trimQ (N:RatGLib L) {x:Rat} {k:Nat} (hx:Bt k x) (hk:k<2199023255552):Ev L 95 [.agg (eQ x)] (.agg (eQ x)):=by
 have:=ev_rational_Trim N (decide (x.num<0)) false false _ _ ((hx.sm hk).1.le (by omega)) ((hx.sm hk).2.le (by omega))
 rw[qv_of]at this
 exact this
theorem ev_signQ (N:RatGLib L) {x:Rat} {k:Nat} (hx:Bt k x) (hk:k<2199023255552):Ev L 97 [.agg (eQ x)] (.int .i64 (sgn x.num)):=by
 have:=ev_rational_Sign N (decide (x.num<0)) false false _ _ ((hx.sm hk).1.le (by omega)) ((hx.sm hk).2.le (by omega))
 rw[qv_of]at this
 exact this
theorem sgn_num {x:Rat}:sgn x.num=0↔x=0:=by
 rw[←Rat.num_eq_zero]
 unfold sgn
 split
 ·omega
 ·split<;>omega
end Go.Eng

namespace Go.Eng
open F
attribute [local irreducible] AKM CmpP Req OpP UnP ConvP RdP LdR StR MkR LenP AppR AppN CpyR RowP SnR Bds SlS CallP CalP FinP pw LdM GetM SetM PutM MkM AppM SnM FlP CallR
set_option maxHeartbeats 4000000
variable {L:Lib}
theorem qv_not (n:Bool) (m d:List Nat):qv (!n) m d = -(qv n m d):=by
 unfold qv
 have h:zv (!n) m = -(zv n m):=by cases n<;>simp [zv]
 rw[h,Rat.neg_mkRat]
theorem cl_rQ (n:Bool) (m d:List Nat):Clean (.agg (rQ false false n m d)):=by
 simp only[Clean,CleanL,and_true,true_and]
 exact ⟨cl_dig _,cl_dig _⟩
theorem ev_flip (N:RatHLib L) (n:Bool) (m d:List Nat):Ev L 149 [.agg (rQ false false n m d)] (.agg (rQ false false (!n) m d)):=by
 refine Ev.x N.rational_flip rfl rfl ?_
 cases n
 all_goals
  (repeat' (refine AKM.x ?_;conv=>whnf))
  exact FinP.go rfl (cl_rQ _ _ _)
theorem ev_subQ (N:RatHLib L) {x y:Rat} {k l:Nat} (hx:Bt k x) (hy:Bt l y) (hk:k<2199023255552) (hl:l<2199023255552):Ev L 150 [.agg (eQ x),.agg (eQ y)] (.agg (eQ (x-y))):=by
 have hF:=ev_flip N (decide (y.num<0)) (dg y.num.natAbs) (dg y.den)
 have hA:=fun q3 q4=>ev_rational_Add N.toRatGLib 68719476736 (by omega) (decide (x.num<0)) (!decide (y.num<0)) false false q3 q4 _ _ _ _ (hx.sm hk).1 (hx.sm hk).2 (hy.sm hl).1 (hy.sm hl).2
 rw[qv_not,qv_of,qv_of,←Rat.sub_eq_add_neg]at hA
 refine Ev.x N.rational_Sub rfl rfl ?_
 (repeat' (first|(refine FlP.n3 ?_;conv=>whnf)|(refine AKM.x ?_;conv=>whnf)|(refine CallP.go (hF) ?_;conv=>whnf)|(refine CallP.go (hA _ _) ?_;conv=>whnf)))
 exact FinP.go rfl (cl_eQ _)
theorem mk_sign {x y:Int} (h:y≠0):mkRat (y.sign*x) y.natAbs=Rat.divInt x y:=by
 obtain ⟨d,hd|hd⟩:=Int.eq_nat_or_neg y
 ·subst hd
  rw[Int.sign_eq_one_of_pos (by omega),Int.one_mul,Int.natAbs_natCast,Rat.divInt_ofNat]
 ·subst hd
  rw[Int.sign_eq_neg_one_of_neg (by omega),Int.natAbs_neg,Int.natAbs_natCast,Rat.divInt_neg',Rat.divInt_ofNat,Int.neg_one_mul]
theorem ev_FracQ (N:RatHLib L) (x y:Int) (hx : -9223372036854775808≤x∧x≤9223372036854775807) (hy : -9223372036854775808≤y∧y≤9223372036854775807) (h0:y≠0):Ev L 151 [.int .i64 x,.int .i64 y] (.agg (eQ (Rat.divInt x y))):=by
 have h1:=ev_integer_Of N.toRatGLib x hx
 have h2:=ev_integer_Of N.toRatGLib y hy
 have g1:Sm 2 (dg x.natAbs):=Sm.dg (by omega)
 have g2:Sm 2 (dg y.natAbs):=Sm.dg (by omega)
 have hl:=fun q1 q2=>ev_lowest N.toRatGLib (decide (x<0) != decide (y<0)) q1 q2 (dg x.natAbs) (dg y.natAbs) (g1.le (by omega)) (g2.le (by omega)) (by rw[val_dg];omega)
 unfold qv at hl
 rw[zv_quot h0,val_dg,mk_sign h0]at hl
 refine Ev.x N.rational_Frac rfl rfl ?_
 (repeat' (first|(refine CmpP.go (fun hc => ?_) (fun hc => ?_)<;>first|(exfalso;omega)|(conv=>whnf))|(refine AKM.x ?_;conv=>whnf)|(refine CallP.go (h1) ?_;conv=>whnf)|(refine CallP.go (h2) ?_;conv=>whnf)))
 refine CalP.walkC 1000 N.rational_quotient rfl rfl ?_
 (repeat' (refine AKM.x ?_;conv=>whnf))
 generalize decide (x<0)=p at *
 generalize decide (y<0)=r at *
 cases p<;>cases r
 all_goals
  (conv=>whnf)
  refine ⟨rfl,?_⟩
  (conv=>whnf)
  (repeat' (refine CallP.go (hl _ _) ?_;conv=>whnf))
  exact FinP.go rfl (cl_eQ _)
end Go.Eng

namespace Go.Eng
open F
attribute [local irreducible] AKM CmpP Req OpP UnP ConvP RdP LdR StR MkR LenP AppR AppN CpyR RowP SnR Bds SlS CallP CalP FinP pw LdM GetM SetM PutM MkM AppM SnM FlP CallR
set_option maxHeartbeats 8000000
variable {L:Lib}
def addP (p r:List Rat):List Rat:=(List.range p.length).map fun i=>p.getD i 0+r.getD i 0
theorem addP_len (p r:List Rat):(addP p r).length=p.length:=by simp [addP]
theorem addP_at {p r:List Rat} {i:Nat} (h:i<p.length):(addP p r)[i]? = some (p.getD i 0+r.getD i 0):=by
 simp only[addP,List.getElem?_map,List.getElem?_range h,Option.map_some]
theorem gD_of {l:List Rat} {i:Nat} {x:Rat} (h:l[i]? = some x):l.getD i 0=x:=by rw[List.getD_eq_getElem?_getD,h];rfl
theorem gD_ge {l:List Rat} {i:Nat} (h:l.length≤i):l.getD i 0=0:=by rw[List.getD_eq_getElem?_getD,List.getElem?_eq_none h];rfl
theorem ev_pTrim (N:PolyGLib L) (q:Bool) (l:List Rat) (k:Nat) (hl:Bs k l) (hk:k<2199023255552) (hn:l.length≤1000000):Ev L 170 [.sl q (l.map eQ)] (.sl false ((trimQ l).map eQ)):=by
 refine Ev.x N.poly_Trim rfl rfl ?_
 (repeat' (refine AKM.x ?_;conv=>whnf))
 refine CalP.walk 1000 N.poly_cut rfl rfl ?_
 (repeat' (first|(refine LenP.go ?_;conv=>whnf)|(refine AKM.x ?_;conv=>whnf)))
 refine AKM.loop1 (fun n=>n) (fun (n:Nat)=>n≤l.length∧cutN l l.length=cutN l n) (fun n=>[(3,.int .i64 n)]) (fun _=>[]) [] [] l.length (by (conv=>whnf);exact ⟨rfl,rfl,rfl⟩) ⟨Nat.le_refl _,rfl⟩ ?_
 intro n ⟨p1,p2⟩ ih
 have done : ∀ {n:Nat},cutN l l.length=n→trimQ l=l.take n:=fun h=>by rw[trimQ,h]
 by_cases hz:n=0∨(∃ m x,n=m+1∧l[m]? = some x∧x≠0)
 ·have hcut:cutN l l.length=n:=by
   rw[p2]
   rcases hz with rfl|⟨m,x,rfl,h1,h2⟩
   ·rfl
   ·rw[cutN,if_neg]
    rw[List.getD_eq_getElem?_getD,h1];exact h2
  have htq:=done hcut
  have htl:(l.take n).length=n:=by rw[List.length_take];omega
  clear ih hcut p2 done
  rcases hz with h0|⟨m,x,hnm,h1,h2⟩
  case' inl=>(repeat' (first|(refine CmpP.go (fun hc => ?_) (fun hc => ?_)<;>first|(exfalso;omega)|(conv=>whnf))|(refine AKM.x ?_;conv=>whnf)))
  case' inr =>
   have h1':l[((n:Int)-1).toNat]? = some x:=by rw[show ((n:Int)-1).toNat=m by omega];exact h1
   have hS':=ev_signQ N.toRatGLib (hl.at h1) (by omega)
   have hs:=sgn_num (x:=x)
   generalize sgn x.num=s at *
   have hS : ∀ v,l[((n:Int)-1).toNat]? = some v→Ev L 97 [.agg (eQ v)] (.int .i64 s):=fun v h=>by
    obtain rfl:=Option.some.inj (h1'.symm.trans h)
    exact hS'
   have hs0:s≠0:=fun h=>h2 (hs.1 h)
   (repeat' (first|(refine CmpP.go (fun hc => ?_) (fun hc => ?_)<;>first|(exfalso;omega)|(conv=>whnf))|(refine OpP.sub ?_ ?_;omega;conv=>whnf)|(refine RdP.at (by assumption) ?_ rfl ?_;omega;conv=>whnf)|(refine AKM.x ?_;conv=>whnf)|(refine CallP.go (hS') ?_;conv=>whnf)))
  all_goals
   refine SlS.to (enc:=eQ) (fun _=>rfl) p1 ?_
   (conv=>whnf)
   skip
   refine ⟨rfl,_,rfl,?_⟩
   (conv=>whnf)
   (repeat' (refine LenP.go ?_;conv=>whnf))
   refine MkR.go (enc:=eO) none n rfl (by rw[htl]) (by omega) ?_
   (conv=>whnf)
   skip
   refine AKM.loop1 (fun i=>n-i) (fun (i:Nat)=>i≤n) (fun i=>[(11,.int .i64 i)]) (fun i=>[(170008,170008,.rw 3 ((fillO (l.take i) n).map eO))]) [] [] 0 (by first|exact (by (conv=>whnf);exact ⟨rfl,rfl,rfl⟩)|(rw[List.take_zero,←fillO_nil];exact (by (conv=>whnf);exact ⟨rfl,rfl,rfl⟩))) (by omega) ?_
   intro i g1 ih
   by_cases hi:i<n
   ·all_goals try (exfalso;omega)
    all_goals
     obtain ⟨y,hy⟩ : ∃ y,l[i]? = some y:=⟨_,List.getElem?_eq_getElem (by omega)⟩
     have hy':l[(i:Int).toNat]? = some y:=hy
     have hti:(l.take i).length=i:=by rw[List.length_take];omega
     have hlf:=fillO_len (l:=l.take i) (m:=n) (by omega)
     have hst:=fillO_set (l:=l.take i) (m:=n) (x:=y) (by omega)
     rw[hti,←take_snocQ hy]at hst
     have hT':=ev_trimQ N.toRatGLib (hl.at hy) (by omega)
     have hT : ∀ v,l[(i:Int).toNat]? = some v→Ev L 95 [.agg (eQ v)] (.agg (eQ y)):=fun v h=>by
      obtain rfl:=Option.some.inj (hy'.symm.trans h)
      exact hT'
     (repeat' (first|(refine CmpP.go (fun hc => ?_) (fun hc => ?_)<;>first|(exfalso;omega)|(conv=>whnf))|(refine Req.go ?_ ?_;omega;conv=>whnf)|(refine RdP.at (by assumption) ?_ rfl ?_;omega;conv=>whnf)|(refine AKM.x ?_;conv=>whnf)|(refine CallP.go (hT') ?_;conv=>whnf)))
     refine StR.nat (enc:=eO) (some y) rfl (fun e=>by cases e<;>rfl) (by omega) ?_
     (conv=>whnf)
     (repeat' (refine OpP.add ?_ ?_;omega;conv=>whnf))
     rw[hst]
     exact AKM.back [] (by (conv=>whnf);exact ⟨rfl,rfl,rfl⟩) (ih (i+1) (by omega) (by omega))
   ·obtain rfl:i=n:=by omega
    clear ih
    rw[fillO_full htl,←htq]at *
    rw[←htq]at htl
    (repeat' (first|(refine CmpP.go (fun hc => ?_) (fun hc => ?_)<;>first|(exfalso;omega)|(conv=>whnf))|(refine AKM.x ?_;conv=>whnf)))
    refine SnR.all (enc:=eQ) (fun _=>rfl) rfl htl.symm ?_
    (conv=>whnf)
    exact FinP.go rfl (by simp only[Clean,true_and];exact cl_eQs _)
 ·obtain ⟨m,rfl⟩ : ∃ m,n=m+1:=⟨n-1,by omega⟩
  obtain ⟨x,hx⟩ : ∃ x,l[m]? = some x:=⟨_,List.getElem?_eq_getElem (by omega)⟩
  have hx0:x=0:=by
   rcases Classical.em (x=0) with h|h
   ·exact h
   ·exact (hz (Or.inr ⟨m,x,rfl,hx,h⟩)).elim
  have hx':l[((m+1:Nat)-1:Int).toNat]? = some x:=by rw[show ((m+1:Nat)-1:Int).toNat=m by omega];exact hx
  have hS':=ev_signQ N.toRatGLib (hl.at hx) (by omega)
  have hs:=sgn_num (x:=x)
  generalize sgn x.num=s at *
  have hS : ∀ v,l[((m+1:Nat)-1:Int).toNat]? = some v→Ev L 97 [.agg (eQ v)] (.int .i64 s):=fun v h=>by
   obtain rfl:=Option.some.inj (hx'.symm.trans h)
   exact hS'
  have hs0:=hs.2 hx0
  (repeat' (first|(refine CmpP.go (fun hc => ?_) (fun hc => ?_)<;>first|(exfalso;omega)|(conv=>whnf))|(refine OpP.sub ?_ ?_;omega;conv=>whnf)|(refine RdP.at (by assumption) ?_ rfl ?_;omega;conv=>whnf)|(refine AKM.x ?_;conv=>whnf)|(refine CallP.go (hS') ?_;conv=>whnf)))
  rw[show ((m+1:Nat):Int)-1=(m:Int) by omega]
  exact AKM.back [] (by (conv=>whnf);exact ⟨rfl,rfl,rfl⟩) (ih m (by omega) ⟨by omega,by rw[p2,cutN,if_pos (by rw[List.getD_eq_getElem?_getD,hx];exact hx0)]⟩)
end Go.Eng

namespace Go.Eng
open F
attribute [local irreducible] AKM CmpP Req OpP UnP ConvP RdP LdR StR MkR LenP AppR AppN CpyR RowP SnR Bds SlS CallP CalP FinP pw LdM GetM SetM PutM MkM AppM SnM FlP CallR
set_option maxHeartbeats 1000000
variable {L:Lib}
def InI (n:Int):Prop := -9223372036854775808≤n∧n≤9223372036854775807
structure Wd where
 b:Int
 f:Int
 r:Int
 o:Int
abbrev encW (w:Wd):List AV:=[.int .i64 w.b,.int .i64 w.f,.int .i64 w.r,.int .i64 w.o]
theorem ev_fixed_mode (I:FixedLib L) (r:Int):Ev L 1 [.int .i64 r] (.bool (decide (1≤r∧r≤3))):=by
 refine Ev.x I.fixed_mode rfl rfl ?_
 (repeat' (first|(refine CmpP.go (fun hc => ?_) (fun hc => ?_)<;>first|(exfalso;omega)|(conv=>whnf))|(refine AKM.x ?_;conv=>whnf)))
 all_goals (first|exact FinP.dt (by omega)|exact FinP.df (by omega))
def WV (w:Wd):Prop:=4≤w.b∧w.b≤24∧0≤w.f∧w.f<w.b∧1≤w.r∧w.r≤3∧1≤w.o∧w.o≤2
instance (w : Wd) : Decidable (WV w) := by unfold WV; infer_instance
variable (w:Wd)
theorem ev_fixed_Valid (I:FixedLib L):Ev L 2 [.agg (encW w)] (.bool (decide (WV w))):=by
 refine Ev.x I.fixed_Valid rfl rfl ?_
 (repeat' (first|(refine CmpP.go (fun hc => ?_) (fun hc => ?_)<;>first|(exfalso;omega)|(conv=>whnf))|(refine AKM.x ?_;conv=>whnf)|(refine CallP.b (ev_fixed_mode I _) (fun hf => ?_) (fun hf => ?_)<;>(conv=>whnf))))
 all_goals (unfold WV;first|exact FinP.dt (by omega)|exact FinP.df (by omega))
def lowS:Int:=if WV w then -pw (w.b-1) else 0
def highS:Int:=if WV w then pw (w.b-1)-1 else 0
theorem ev_fixed_Low (I:FixedLib L):Ev L 3 [.agg (encW w)] (.int .i64 (lowS w)):=by
 refine Ev.x I.fixed_Low rfl rfl ?_
 by_cases hv:WV w
 all_goals (
  have hv':=hv
  unfold WV at hv'
  (repeat' (first|(refine OpP.sub ?_ ?_;omega;conv=>whnf)|(refine OpP.shl1 ?_ (fun _ _ => ?_);omega;conv=>whnf)|(refine OpP.wsub ?_;conv=>whnf)|(refine UnP.neg ?_ ?_;omega;conv=>whnf)|(refine AKM.x ?_;conv=>whnf)|(refine CallP.b (ev_fixed_Valid _ I) (fun hf => ?_) (fun hf => ?_)<;>(conv=>whnf))))
  all_goals (first|contradiction|exact FinP.i (by rw[lowS,if_pos hv])|exact FinP.i (by rw[lowS,if_neg hv])))
theorem ev_fixed_High (I:FixedLib L):Ev L 4 [.agg (encW w)] (.int .i64 (highS w)):=by
 refine Ev.x I.fixed_High rfl rfl ?_
 by_cases hv:WV w
 all_goals (
  have hv':=hv
  unfold WV at hv'
  (repeat' (first|(refine OpP.sub ?_ ?_;omega;conv=>whnf)|(refine OpP.shl1 ?_ (fun _ _ => ?_);omega;conv=>whnf)|(refine OpP.wsub ?_;conv=>whnf)|(refine AKM.x ?_;conv=>whnf)|(refine CallP.b (ev_fixed_Valid _ I) (fun hf => ?_) (fun hf => ?_)<;>(conv=>whnf))))
  all_goals (first|contradiction|exact FinP.i (by rw[highS,if_pos hv])|exact FinP.i (by rw[highS,if_neg hv])))
def FT (v:Int):Prop:=WV w∧lowS w≤v∧v≤highS w
instance (v : Int) : Decidable (FT w v) := by unfold FT; infer_instance
theorem ev_fixed_Fits (I:FixedLib L) (v:Int):Ev L 5 [.agg (encW w),.int .i64 v] (.bool (decide (FT w v))):=by
 refine Ev.x I.fixed_Fits rfl rfl ?_
 (repeat' (first|(refine CmpP.go (fun hc => ?_) (fun hc => ?_)<;>first|(exfalso;omega)|(conv=>whnf))|(refine AKM.x ?_;conv=>whnf)|(refine CallP.b (ev_fixed_Valid _ I) (fun hf => ?_) (fun hf => ?_)<;>(conv=>whnf))|(refine CallP.go (ev_fixed_Low _ I) ?_;conv=>whnf)|(refine CallP.go (ev_fixed_High _ I) ?_;conv=>whnf)))
 all_goals (unfold FT;first|exact FinP.dt ⟨by assumption,by assumption,by assumption⟩|exact FinP.df (by rintro ⟨h1,h2,h3⟩;first|contradiction|omega))
def wrapS (n v:Int):Int:=if 1≤n∧n≤62 then (if pw (n-1)≤v%pw n then v%pw n-pw n else v%pw n) else 0
theorem ev_fixed_Wrap (I:FixedLib L) (n v:Int):Ev L 7 [.int .i64 n,.int .i64 v] (.int .i64 (wrapS n v)):=by
 refine Ev.x I.fixed_Wrap rfl rfl ?_
 (repeat' (first|(refine CmpP.go (fun hc => ?_) (fun hc => ?_)<;>first|(exfalso;omega)|(conv=>whnf))|(refine OpP.sub ?_ ?_;omega;conv=>whnf)|(refine OpP.shl1 ?_ (fun _ _ => ?_);omega;conv=>whnf)|(refine OpP.andm ?_ (fun _ _ => ?_);omega;conv=>whnf)|(refine AKM.x ?_;conv=>whnf)))
 all_goals (refine FinP.i ?_;unfold wrapS;first|rw[if_neg (by omega)]|rw[if_pos (by omega),if_pos (by omega)]|rw[if_pos (by omega),if_neg (by omega)])
def satS (v:Int):Int:=min (max v (lowS w)) (highS w)
theorem ev_fixed_Saturate (I:FixedLib L) (v:Int):Ev L 8 [.agg (encW w),.int .i64 v] (.int .i64 (satS w v)):=by
 refine Ev.x I.fixed_Saturate rfl rfl ?_
 (repeat' (first|(refine CmpP.go (fun hc => ?_) (fun hc => ?_)<;>first|(exfalso;omega)|(conv=>whnf))|(refine AKM.x ?_;conv=>whnf)|(refine CallP.go (ev_fixed_Low _ I) ?_;conv=>whnf)|(refine CallP.go (ev_fixed_High _ I) ?_;conv=>whnf)))
 all_goals (refine FinP.i ?_;unfold satS;omega)
def redS (v:Int):Int:=if WV w then (if w.o=2 then wrapS w.b v else satS w v) else 0
theorem ev_fixed_Reduce (I:FixedLib L) (v:Int):Ev L 9 [.agg (encW w),.int .i64 v] (.int .i64 (redS w v)):=by
 refine Ev.x I.fixed_Reduce rfl rfl ?_
 (repeat' (first|(refine CmpP.go (fun hc => ?_) (fun hc => ?_)<;>first|(exfalso;omega)|(conv=>whnf))|(refine AKM.x ?_;conv=>whnf)|(refine CallP.b (ev_fixed_Valid _ I) (fun hf => ?_) (fun hf => ?_)<;>(conv=>whnf))|(refine CallP.go (ev_fixed_Wrap I _ _) ?_;conv=>whnf)|(refine CallP.go (ev_fixed_Saturate _ I _) ?_;conv=>whnf)))
 all_goals (refine FinP.i ?_;unfold redS;first|rw[if_neg (by assumption)]|rw[if_pos (by assumption),if_pos (by assumption)]|rw[if_pos (by assumption),if_neg (by assumption)])
def shiftS (v n r:Int):Int :=
 if 0≤n∧n≤62∧1≤r∧r≤3 then
  (if n=0 then v
   else if (r=2∧pw (n-1)≤v%pw n)∨(r=3∧v<0∧v%pw n≠0) then v/pw n+1 else v/pw n)
 else 0
theorem ev_fixed_Shift (I:FixedLib L) (v n r:Int) (hv:InI v):Ev L 6 [.int .i64 v,.int .i64 n,.int .i64 r] (.int .i64 (shiftS v n r)):=by
 refine Ev.x I.fixed_Shift rfl rfl ?_
 unfold InI at hv
 by_cases hn:1≤n∧n≤62
 ·have h2:=pw_succ hn.1
  have h3:=pw_pos (n-1)
  have h4:=ediv_half (m:=pw n) (by omega) hv
  have h5:=half_bit (v:=v) h3
  rw[←h2]at h5
  by_cases hr:1≤r∧r≤3
  ·rcases (by omega:r=1∨r=2∨r=3) with rfl|rfl|rfl
   all_goals (
    (repeat' (first|(refine CmpP.go (fun hc => ?_) (fun hc => ?_)<;>first|(exfalso;omega)|(conv=>whnf))|(refine Req.go ?_ ?_;omega;conv=>whnf)|(refine OpP.add ?_ ?_;omega;conv=>whnf)|(refine OpP.sub ?_ ?_;omega;conv=>whnf)|(refine OpP.shr ?_ ?_;omega;conv=>whnf)|(refine OpP.shl1 ?_ (fun _ _ => ?_);omega;conv=>whnf)|(refine OpP.andm ?_ (fun _ _ => ?_);omega;conv=>whnf)|(refine OpP.and1 ?_;conv=>whnf)|(refine AKM.x ?_;conv=>whnf)|(refine CallP.b (ev_fixed_mode I _) (fun hf => ?_) (fun hf => ?_)<;>(conv=>whnf))))
    all_goals (first|contradiction|(exfalso;omega)|skip))
   all_goals (
    refine FinP.i ?_
    unfold shiftS
    rw[if_pos (by omega),if_neg (by omega)]
    first
     | (rw[if_pos (by omega)];done)
     | (rw[if_neg (by omega)];done)
     |(by_cases hc:pw (n-1)≤v%pw n
       ·rw[if_pos hc]at h5;rw[if_pos (by omega),h5]
       ·rw[if_neg hc]at h5;rw[if_neg (by omega),h5];omega))
  ·(repeat' (first|(refine CmpP.go (fun hc => ?_) (fun hc => ?_)<;>first|(exfalso;omega)|(conv=>whnf))|(refine AKM.x ?_;conv=>whnf)|(refine CallP.b (ev_fixed_mode I _) (fun hf => ?_) (fun hf => ?_)<;>(conv=>whnf))))
   all_goals (first|contradiction|(exfalso;omega)|skip)
   all_goals (refine FinP.i ?_;unfold shiftS;rw[if_neg (by omega)])
 ·by_cases hz:n=0
  ·subst hz
   (repeat' (first|(refine CmpP.go (fun hc => ?_) (fun hc => ?_)<;>first|(exfalso;omega)|(conv=>whnf))|(refine AKM.x ?_;conv=>whnf)|(refine CallP.b (ev_fixed_mode I _) (fun hf => ?_) (fun hf => ?_)<;>(conv=>whnf))))
   all_goals (first|contradiction|(exfalso;omega)|skip)
   all_goals (refine FinP.i ?_;unfold shiftS;first|rw[if_pos (by omega),if_pos rfl]|rw[if_neg (by omega)])
  ·(repeat' (first|(refine CmpP.go (fun hc => ?_) (fun hc => ?_)<;>first|(exfalso;omega)|(conv=>whnf))|(refine AKM.x ?_;conv=>whnf)))
   all_goals (first|contradiction|(exfalso;omega)|skip)
   all_goals (refine FinP.i ?_;unfold shiftS;rw[if_neg (by omega)])
end Go.Eng

namespace Go.Eng
open F
attribute [local irreducible] AKM CmpP Req OpP UnP ConvP RdP LdR StR MkR LenP AppR AppN CpyR RowP SnR Bds SlS CallP CalP FinP pw LdM GetM SetM PutM MkM AppM SnM FlP CallR
set_option maxHeartbeats 1000000
variable {L:Lib}
theorem drop_cons {α:Type} {l:List α} {i:Nat} {e:α} (h:l[i]? = some e):l.drop i=e::l.drop (i+1):=by
 obtain ⟨h1,h2⟩:=List.getElem?_eq_some_iff.1 h
 rw[List.drop_eq_getElem_cons h1,h2]
theorem drop_len {α:Type} {l:List α} {i:Nat} (h:l.length≤i):l.drop i=[]:=List.drop_eq_nil_of_le h
theorem ev_ref21_SameInts (I:FixedLib L) (xs ys:List Int) (q1 q2:Bool) (hx:xs.length<9223372036854775808) (hy:ys.length<9223372036854775808):Ev L 20 [.sl q1 (xs.map encInt),.sl q2 (ys.map encInt)] (.bool (decide (xs=ys))):=by
 refine Ev.x I.ref21_SameInts rfl rfl ?_
 (repeat' (first|(refine CmpP.go (fun hc => ?_) (fun hc => ?_)<;>first|(exfalso;omega)|(conv=>whnf))|(refine LenP.go ?_;conv=>whnf)|(refine AKM.x ?_;conv=>whnf)))
 ·exact FinP.df (by intro e;subst e;omega)
 ·have h:=hc
  refine AKM.loop1 (fun i=>xs.length-i) (fun (i:Nat)=>i≤xs.length∧(xs=ys↔xs.drop i=ys.drop i)) (fun i=>[(5,.int .i64 i)]) (fun _=>[]) [] [] 0 (by (conv=>whnf);exact ⟨rfl,rfl,rfl⟩) ⟨by omega,by simp⟩ ?_
  intro i ⟨p1,p2⟩ ih
  (repeat' (first|(refine CmpP.go (fun hc => ?_) (fun hc => ?_)<;>first|(exfalso;omega)|(conv=>whnf))|(refine OpP.add ?_ ?_;omega;conv=>whnf)|(refine LenP.go ?_;conv=>whnf)|(refine RdP.nat ?_ (fun _=>rfl) (fun e he => ?_);omega;conv=>whnf)|(refine AKM.x ?_;conv=>whnf)))
  ·rename_i e1 h1
   refine FinP.df ?_
   rw[p2,drop_cons h1,drop_cons he]
   intro e;exact hc (List.cons.inj e).1
  ·rename_i e1 h1
   refine AKM.back [] (by (conv=>whnf);exact ⟨rfl,rfl,rfl⟩) (ih (i+1) (by omega) ⟨by omega,?_⟩)
   rw[p2,drop_cons h1,drop_cons he,hc]
   simp
  ·refine FinP.dt ?_
   rw[p2,drop_len (by omega),drop_len (by omega)]
structure Nd where
 q:Bool
 ts:List (Int × Int)
abbrev encT (t:Int × Int):List AV:=[.int .i64 t.1,.int .i64 t.2]
abbrev encNd (n:Nd):List AV:=[.sl n.q (n.ts.map encT)]
structure Nt where
 d:Wd
 c:Wd
 s:Int
 qn:Bool
 nodes:List Nd
 qx:Bool
 next:List Int
 out:Int
abbrev encN (n:Nt):List AV:=[.int .i64 n.d.b,.int .i64 n.d.f,.int .i64 n.d.r,.int .i64 n.d.o,.int .i64 n.c.b,.int .i64 n.c.f,.int .i64 n.c.r,.int .i64 n.c.o,.int .i64 n.s,.sl n.qn (n.nodes.map encNd),.sl n.qx (n.next.map encInt),.int .i64 n.out]
def termB (c:Wd) (s:Int) (k:Nat) (t:Int × Int):Bool:=decide (0≤t.1∧t.1≤s+k∧(t.2=pw c.f∨FT c t.2))
def nodesB (c:Wd) (s:Int):Nat→List Nd→Bool
 | _,[]=>true
 | k,n::l=>(decide (n.ts.length≤64)&&n.ts.all (termB c s k))&&nodesB c s (k+1) l
def nextB (m:Int) (l:List Int):Bool:=l.all fun k=>decide (0≤k∧k≤m)
def netB (n:Nt):Bool:=decide (WV n.d)&&decide (WV n.c)&&decide (0≤n.s∧n.s≤64∧n.nodes.length≤64∧(n.next.length:Int)=n.s)&&nodesB n.c n.s 0 n.nodes&&nextB (n.s+n.nodes.length) n.next&&decide (0≤n.out∧n.out≤n.s+n.nodes.length)
variable (n:Nt)
theorem netB_iff:netB n=true↔WV n.d∧WV n.c∧(0≤n.s∧n.s≤64∧n.nodes.length≤64∧(n.next.length:Int)=n.s)∧nodesB n.c n.s 0 n.nodes=true∧nextB (n.s+n.nodes.length) n.next=true∧0≤n.out∧n.out≤n.s+n.nodes.length:=by
 simp only[netB,Bool.and_eq_true,decide_eq_true_eq,and_assoc]
theorem eqF {x:Bool} (h : ¬ x=true):false=x:=by simp at h;rw[h]
theorem eqT {x:Bool} (h:x=true):true=x:=by rw[h]
theorem ev_network_Valid (I:FixedLib L) (J:NetLib L):Ev L 21 [.agg (encN n)] (.bool (netB n)):=by
 refine Ev.x J.network_Valid rfl rfl ?_
 (repeat' (first|(refine CmpP.go (fun hc => ?_) (fun hc => ?_)<;>first|(exfalso;omega)|(conv=>whnf))|(refine LenP.go ?_;conv=>whnf)|(refine AKM.x ?_;conv=>whnf)|(refine CallP.b (ev_fixed_Valid ⟨_,_,_,_⟩ I) (fun hf => ?_) (fun hf => ?_)<;>(conv=>whnf))))
 all_goals try (
  refine FinP.b (eqF ?_)
  rw[netB_iff]
  rintro ⟨x1,x2,x3,_⟩
  first|contradiction|omega)
 rename_i h1 h3 h4 h5
 have h2:=hf
 have h6:=hc
 have h1:WV n.d:=h1
 have h2:WV n.c:=h2
 have hw:=h2
 unfold WV at hw
 refine AKM.loop1 (fun i=>n.nodes.length-i) (fun (i:Nat)=>i≤n.nodes.length∧nodesB n.c n.s i (n.nodes.drop i)=nodesB n.c n.s 0 n.nodes) (fun i=>[(45,.int .i64 i)]) (fun _=>[]) [] [] 0 (by (conv=>whnf);exact ⟨rfl,rfl,rfl⟩) ⟨by omega,rfl⟩ ?_
 intro i ⟨p1,p2⟩ ih
 (repeat' (first|(refine CmpP.go (fun hc => ?_) (fun hc => ?_)<;>first|(exfalso;omega)|(conv=>whnf))|(refine OpP.add ?_ ?_;omega;conv=>whnf)|(refine LenP.go ?_;conv=>whnf)|(refine RdP.nat ?_ (fun _=>rfl) (fun e he => ?_);omega;conv=>whnf)|(refine AKM.x ?_;conv=>whnf)))
 ·rename Nd=>nd
  have hnd:=he
  rw[drop_cons hnd,nodesB,decide_eq_false (by omega)]at p2
  refine FinP.b (eqF ?_)
  rw[netB_iff,←p2];simp
 ·rename Nd=>nd
  have hnd:=he
  rw[drop_cons hnd,nodesB,decide_eq_true (by omega),Bool.true_and]at p2
  refine AKM.loop1 (fun j=>nd.ts.length-j) (fun (j:Nat)=>j≤nd.ts.length∧(nd.ts.drop j).all (termB n.c n.s i)=nd.ts.all (termB n.c n.s i)) (fun j=>[(57,.int .i64 j)]) (fun _=>[]) [] [] 0 (by (conv=>whnf);exact ⟨rfl,rfl,rfl⟩) ⟨by omega,rfl⟩ ?_
  intro j ⟨r1,r2⟩ ih2
  (repeat' (first|(refine CmpP.go (fun hc => ?_) (fun hc => ?_)<;>first|(exfalso;omega)|(conv=>whnf))|(refine OpP.add ?_ ?_;omega;conv=>whnf)|(refine OpP.shl1 ?_ (fun _ _ => ?_);omega;conv=>whnf)|(refine RdP.nat ?_ (fun _=>rfl) (fun e he => ?_);omega;conv=>whnf)|(refine AKM.x ?_;conv=>whnf)|(refine CallP.b (ev_fixed_Fits ⟨_,_,_,_⟩ I _) (fun hf => ?_) (fun hf => ?_)<;>(conv=>whnf))))
  all_goals try (
   have hb:termB n.c n.s i e=false:=by
    simp only[termB,decide_eq_false_iff_not];intro hh;first|omega|exact absurd hh.2.2 (fun hx=>hx.elim (fun hx=>by omega) (fun hx=>by contradiction))
   rw[drop_cons he,List.all_cons,hb,Bool.false_and]at r2
   rw[←r2,Bool.false_and]at p2
   refine FinP.b (eqF ?_)
   rw[netB_iff,←p2];simp
   done)
  all_goals try (
   have hb:termB n.c n.s i e=true:=by
    simp only[termB,decide_eq_true_eq]
    exact ⟨by omega,by omega,by first|exact Or.inr (by assumption)|exact Or.inl (by assumption)⟩
   rw[drop_cons he,List.all_cons,hb,Bool.true_and]at r2
   exact AKM.back [] (by (conv=>whnf);exact ⟨rfl,rfl,rfl⟩) (ih2 (j+1) (by omega) ⟨by omega,r2⟩))
  rw[drop_len (by omega)]at r2
  rw[←r2,List.all_nil,Bool.true_and]at p2
  exact AKM.back [] (by (conv=>whnf);exact ⟨rfl,rfl,rfl⟩) (ih (i+1) (by omega) ⟨by omega,p2⟩)
 ·rw[drop_len (by omega),nodesB]at p2
  refine AKM.loop1 (fun i=>n.next.length-i) (fun (i:Nat)=>i≤n.next.length∧nextB (n.s+n.nodes.length) (n.next.drop i)=nextB (n.s+n.nodes.length) n.next) (fun i=>[(99,.int .i64 i)]) (fun _=>[]) [] [] 0 (by (conv=>whnf);exact ⟨rfl,rfl,rfl⟩) ⟨by omega,rfl⟩ ?_
  intro k ⟨r1,r2⟩ ih3
  (repeat' (first|(refine CmpP.go (fun hc => ?_) (fun hc => ?_)<;>first|(exfalso;omega)|(conv=>whnf))|(refine OpP.add ?_ ?_;omega;conv=>whnf)|(refine RdP.nat ?_ (fun _=>rfl) (fun e he => ?_);omega;conv=>whnf)|(refine AKM.x ?_;conv=>whnf)))
  all_goals try (
   have hb:decide (0≤e∧e≤n.s+n.nodes.length)=false:=by (rw[decide_eq_false_iff_not];omega)
   rw[drop_cons he,nextB,List.all_cons,hb,Bool.false_and]at r2
   refine FinP.b (eqF ?_)
   rw[netB_iff,←r2];simp
   done)
  all_goals try (
   have hb:decide (0≤e∧e≤n.s+n.nodes.length)=true:=by (rw[decide_eq_true_eq];omega)
   rw[drop_cons he,nextB,List.all_cons,hb,Bool.true_and]at r2
   exact AKM.back [] (by (conv=>whnf);exact ⟨rfl,rfl,rfl⟩) (ih3 (k+1) (by omega) ⟨by omega,r2⟩))
  all_goals (
   rw[drop_len (by omega)]at r2
   first
    | (refine FinP.b (eqT ?_);rw[netB_iff];exact ⟨h1,h2,by omega,p2.symm,r2.symm,by omega,by omega⟩)
    | (refine FinP.b (eqF ?_);rw[netB_iff];omega))
end Go.Eng
