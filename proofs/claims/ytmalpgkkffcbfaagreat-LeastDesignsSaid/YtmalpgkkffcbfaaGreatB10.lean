/-
  Rational numbers and polynomials of the references: Same, SameList, Sign; Trim, Equal, Same.
-/
import Derived.Test.YtmalpgkkffcbfaaGreatB9
import Derived.Test.YtmalpgkkffcbfaaGreatB8
import Derived.Test.YtmalpgkkffcbfaaGreatB1
import Derived.Test.YtmalpgkkffcbfaaGreatB7
import Derived.Test.YtmalpgkkffcbfaaGreatB2
import Derived.Test.YtmalpgkkffcbfaaGreatB5
import Derived.ProofKit
import Derived.OpenShut
import Derived.ChangeOld
import Derived.WalkKit
import Derived.WideShapes
import Derived.ChangeArms
set_option linter.unusedSimpArgs false
set_option linter.unusedVariables false
set_option linter.unnecessarySimpa false
namespace Go.b8
open F
attribute [local irreducible] AA AF AQ AC CI AW A5 A9 B4 B3 CE DE BX A3 BW CD AB A4 AJ pw BV BN CS CR C1 CY CT BL DD
variable {L:Lib}
set_option maxHeartbeats 8000000
theorem cQ (N:e7 L) (q1 q2:Bool) (m:List Nat) (hm:m.length<=274877906944):Ev L 156 [.sl q1 (m.map AL),.sl q2 (m.map AL)] (.bool true):=by
 refine Ev.x N.MN rfl rfl ?_;(repeat' ((first|(apply AG<;>intro hc<;>try omega)|apply AU|apply AE)<;>conv=>whnf))
 refine C5 (λ i=>m.length-i) (λ(i:Nat)=>i<=m.length) (λ i=>[(5,.int .i64 i)]) (λ_=>[]) 0 (by omega) ?_;intro i p1 ih;by_cases hi:i<m.length
 ·obtain ⟨x,hx⟩ : ∃ x,m[i]? = some x:=⟨_,zE hi⟩
  have mi:m[(i:Int).toNat]? = some x:=hx;(repeat' ((first|(apply AG<;>intro hc<;>try omega)|(apply AZ;omega)|apply AU|(refine BA (by assumption) ?_ rfl ?_;omega)|apply AE)<;>conv=>whnf))
  exact BM [] (ih (i+1) (by omega) (by omega))
 ·obtain rfl:i=m.length:=by omega
  clear ih;(repeat' ((first|(apply AG<;>intro hc<;>try omega)|apply AU|apply AE)<;>conv=>whnf))
  exact DM rfl
theorem oP (N:e7 L) (n q1 q2:Bool) (m:List Nat) (hm:m.length<=274877906944):Ev L 157 [.agg (rZ q1 n m),.agg (rZ q2 n m)] (.bool true):=by
 have h1:=λ q1 q2=>cQ N q1 q2 m hm
 refine Ev.x N.MW rfl rfl ?_;cases n;all_goals
  (repeat' ((first|apply AE|refine AD (h1 _ _) ?_)<;>conv=>whnf))
  exact DM rfl
theorem cV (N:e7 L) {x:Rat} {k:Nat} (hx:Bt k x) (hk:k<2199023255552):Ev L 158 [.agg (eQ x),.agg (eQ x)] (.bool true):=by
 have hs:=hx.fi hk;have h1:=λ q1 q2=>cQ N q1 q2 (dg x.den) (by have:=hs.2.2;omega)
 have h2:=λ q1 q2=>oP N (decide (x.num<0)) q1 q2 (dg x.num.natAbs) (by have:=hs.1.2;omega)
 refine Ev.x N.JJ rfl rfl ?_;(repeat' ((first|apply AE|refine AD (h1 _ _) ?_|refine AD (h2 _ _) ?_)<;>conv=>whnf))
 exact DM rfl
theorem Wz (N:e7 L) (q1 q2:Bool) (l:List Rat) (k:Nat) (hl:Bs k l) (hk:k<2199023255552) (hn:l.length<=1099511627776):Ev L 159 [.sl q1 (l.map eQ),.sl q2 (l.map eQ)] (.bool true):=by
 refine Ev.x N.NB rfl rfl ?_;(repeat' ((first|(apply AG<;>intro hc<;>try omega)|apply AU|apply AE)<;>conv=>whnf))
 refine C5 (λ i=>l.length-i) (λ(i:Nat)=>i<=l.length) (λ i=>[(5,.int .i64 i)]) (λ_=>[]) 0 (by omega) ?_;intro i p1 ih;by_cases hi:i<l.length
 ·obtain ⟨x,hx⟩ : ∃ x,l[i]? = some x:=⟨_,zE hi⟩
  have mi:l[(i:Int).toNat]? = some x:=hx;have hC:=cV N (hl.at hx) hk;(repeat' ((first|(apply AG<;>intro hc<;>try omega)|(apply AZ;omega)|apply AU|(refine BA (by assumption) ?_ rfl ?_;omega)|apply AE|refine AD (hC) ?_)<;>conv=>whnf))
  exact BM [] (ih (i+1) (by omega) (by omega))
 ·obtain rfl:i=l.length:=by omega
  clear ih;(repeat' ((first|(apply AG<;>intro hc<;>try omega)|apply AU|apply AE)<;>conv=>whnf))
  exact DM rfl
theorem oV (N:e7 L) {x:Rat} {k:Nat} (hx:Bt k x) (hk:k<2199023255552) : ∃ s:Int,Ev L 155 [.agg (eQ x)] (.int .i64 s)/\(s=0↔x=0):=by
 have hm:=hx.fi hk;obtain ⟨n',m',d',hp,s1,s2,s3,s4⟩:=KS N.toa5 (decide (x.num<0)) false (dg x.num.natAbs) (dg x.den) 274877906943 (by omega) (hm.1.le (by omega)) (hm.2.le (by omega));have hS:=λ q=>SX N.toa5 n' q m' (s1.le (by omega))
 rw[EG]at s4;have hz:n6 (zv n' m')=0↔x=0:=by
  rw[s4,Rat.mkRat_eq_zero s3];unfold n6;split<;>(try split)<;>omega
 generalize n6 (zv n' m')=s at *;refine ⟨s,?_,hz⟩;refine Ev.x N.JK rfl rfl ?_;(repeat' ((first|apply QN|apply AE|refine AD (hp) ?_|refine AD (hS _) ?_)<;>conv=>whnf))
 exact C6 rfl
def C8 (l:List Rat):Nat->Nat
 | 0=>0
 | n+1=>if l.getD n 0=0 then C8 l n else n+1
theorem OY (l:List Rat) : ∀ n,C8 l n<=n
 | 0=>Nat.le_refl _
 | n+1=>by rw[C8];split;exact Nat.le_succ_of_le (OY l n);exact Nat.le_refl _
def CP (l:List Rat):List Rat:=l.take (C8 l l.length)
theorem lQ (l:List Rat) (k:Nat) : ∀ n,n<=k->C8 (l.take k) n=C8 l n
 | 0,_=>rfl
 | n+1,h=>by
  rw[C8,C8,lQ l k n (by omega),List.getD_eq_getElem?_getD,List.getD_eq_getElem?_getD,List.getElem?_take_of_lt (by omega)]
theorem lP (l:List Rat) : ∀ n,C8 l (C8 l n)=C8 l n
 | 0=>rfl
 | n+1=>by
  rw[C8];split
  ·exact lP l n
  ·next h=>rw[C8,if_neg h]
theorem R4 (l:List Rat):(CP l).length=C8 l l.length:=by rw[CP,List.length_take];exact Nat.min_eq_left (OY _ _)
theorem wP (l:List Rat):CP (CP l)=CP l:=by
 have h:=R4 l;have h2:C8 (CP l) (CP l).length=(CP l).length:=by
  rw[h,CP,lQ _ _ _ (Nat.le_refl _),lP]
 rw[CP,h2,List.take_length]
theorem Bs.trim {k:Nat} {l:List Rat} (h:Bs k l):Bs k (CP l):=λ x hx=>h x (List.mem_of_mem_take hx)
theorem wF {l:List Rat} {i:Nat} {x:Rat} (h:l[i]? = some x):l.take (i+1)=l.take i++[x]:=by
 rw[List.take_add_one,h];rfl
theorem AdW (N:v5 L) (q:Bool) (l:List Rat) (k:Nat) (hl:Bs k l) (hk:k<2199023255552) (hn:l.length<=1000000):Ev L 171 [.sl q (l.map eQ)] (.sl false ((CP l).map eQ)):=by
 refine Ev.x N.NF rfl rfl ?_;(repeat' ((first|apply AU|apply AE)<;>conv=>whnf))
 refine C5 (λ n=>n) (λ(n:Nat)=>n<=l.length/\C8 l l.length=C8 l n) (λ n=>[(3,.int .i64 n)]) (λ_=>[]) l.length ⟨Nat.le_refl _,rfl⟩ ?_;intro n ⟨p1,p2⟩ ih;have done : ∀ {n:Nat},C8 l l.length=n->CP l=l.take n:=λ h=>by rw[CP,h]
 by_cases hz:n=0\/(∃ m x,n=m+1/\l[m]? = some x/\x≠0)
 ·have pg:C8 l l.length=n:=by
   rw[p2];rcases hz with rfl|⟨m,x,rfl,h1,h2⟩
   ·rfl
   ·rw[C8,if_neg]
    rw[List.getD_eq_getElem?_getD,h1];exact h2
  rw[done pg];have de:(l.take n).length=n:=by rw[List.length_take];omega
  have tk:Bs k (l.take n):=hl.take n;clear ih pg p2 done;rcases hz with h0|⟨m,x,Pz,h1,h2⟩
  case' inl=>(repeat' ((first|(apply AG<;>intro hc<;>try omega)|apply AE)<;>conv=>whnf))
  case' inr =>
   have xa:l[((n:Int)-1).toNat]? = some x:=by rw[show ((n:Int)-1).toNat=m by omega];exact h1
   obtain ⟨s,hS,hs⟩:=oV N.toe7 (hl.at h1) hk;have bp:s≠0:=λ h=>h2 (hs.1 h)
   (repeat' ((first|(apply AG<;>intro hc<;>try omega)|(apply B1;omega)|(refine BA (by assumption) ?_ rfl ?_;omega)|apply AE|refine AD (hS) ?_)<;>conv=>whnf))
  all_goals
   refine OR (λ_=>rfl) p1 ?_;generalize l.take n=t at *;(conv=>whnf)
   (repeat' (apply AU<;>conv=>whnf))
   refine C5 (λ i=>n-i) (λ(i:Nat)=>i<=n) (λ i=>[(26,.int .i64 i),(4,.row 171004 0 3 0 i)]) (λ i=>[(171004,171004,.rw 3 ((t.take i).map eQ))]) 0 (by omega) ?_;intro i g1 ih;have om:(t.take i).length=i:=by rw[List.length_take];omega
   by_cases hi:i<n
   ·all_goals try omega
    all_goals
     obtain ⟨y,hy⟩ : ∃ y,t[i]? = some y:=⟨_,zE (by omega)⟩;have Cs:t[(i:Int).toNat]? = some y:=hy;have hsn:=wF hy;have Mq:(t.take (i+1)).length=i+1:=by rw[List.length_take];omega
     have hT:=oZ N.toa5 (tk.at hy) hk;(repeat' ((first|(apply AG<;>intro hc<;>try omega)|(refine BA (by assumption) ?_ rfl ?_;omega)|apply E5|apply AE|refine AD (hT) ?_)<;>conv=>whnf))
     refine FP (enc:=eQ) y rfl om.symm rfl (by omega) (by omega) ?_;rw[<-hsn,Mq];(conv=>whnf)
     (repeat' ((first|(apply AZ;omega)|fail)<;>conv=>whnf))
     exact BM [(171004,171034)] (ih (i+1) (by omega) (by omega))
   ·obtain rfl:i=n:=by omega
    clear ih;rw[zT (Nat.le_of_eq de)];(repeat' ((first|(apply AG<;>intro hc<;>try omega)|apply AE)<;>conv=>whnf))
    refine EE (enc:=eQ) (λ_=>rfl) rfl de.symm ?_;(conv=>whnf)
    exact AX rfl (by simp only[A2,true_and];exact IZ _)
 ·obtain ⟨m,rfl⟩ : ∃ m,n=m+1:=⟨n-1,by omega⟩
  obtain ⟨x,hx⟩ : ∃ x,l[m]? = some x:=⟨_,zE (by omega)⟩;have mj:x=0:=by
   rcases Classical.em (x=0) with h|h
   ·exact h
   ·exact (hz (Or.inr ⟨m,x,rfl,hx,h⟩)).elim
  have mi:l[((m+1:Nat)-1:Int).toNat]? = some x:=by rw[show ((m+1:Nat)-1:Int).toNat=m by omega];exact hx
  obtain ⟨s,hS,hs⟩:=oV N.toe7 (hl.at hx) hk;have bp:=hs.2 mj;(repeat' ((first|(apply AG<;>intro hc<;>try omega)|(apply B1;omega)|(refine BA (by assumption) ?_ rfl ?_;omega)|apply AE|refine AD (hS) ?_)<;>conv=>whnf))
  rw[show ((m+1:Nat):Int)-1=(m:Int) by omega];exact BM [] (ih m (by omega) ⟨by omega,by rw[p2,C8,if_pos (by rw[List.getD_eq_getElem?_getD,hx];exact mj)]⟩)
theorem X9 (N:v5 L) (q1 q2:Bool) (l:List Rat) (k:Nat) (hl:Bs k l) (hk:k<2199023255552) (hn:l.length<=1000000):Ev L 172 [.sl q1 (l.map eQ),.sl q2 (l.map eQ)] (.bool true):=by
 have hS:=λ q1 q2=>Wz N.toe7 q1 q2 l k hl hk (by omega)
 refine Ev.x N.ND rfl rfl ?_;(repeat' ((first|apply AE|refine AD (hS _ _) ?_)<;>conv=>whnf))
 exact DM rfl
end Go.b8
namespace Go.b8
open F
theorem Xz {L:Lib} {f:Nat} {fn:AFn} {vs:List AV} {own k6:AH} {r:AV} (hL:L f=some fn) (Gt:HP fn.body=true) (h:GO L f vs own r k6):k6=own:=by
 obtain ⟨n,h⟩:=h;cases n with
 | zero=>simp [C4]at h
 | succ n =>
  rw[Q5]at h;simp only[hL]at h;split at h
  ·split at h
   ·rename_i st g8
    split at h
    ·simp only[Option.some.injEq,Prod.mk.injEq]at h
     rw[<-h.2];exact H7 n (by simp [O5,Gt]) g8
    ·cases h
   ·cases h
  ·cases h
attribute [local irreducible] AA AF AQ AC CI AW A5 A9 B4 B3 CE DE BX A3 BW CD AB A4 AJ pw BV BN CS CR C1 CY CT BL DD
set_option maxHeartbeats 1000000
variable {L:Lib}
theorem Wn (N:c6 L) (l:List Nat) (s:Nat) (hD:A0 l) (hl:l.length<=1099511627776):A4 L 65 [.row 5 0 1 0 l.length] [(0,.row 5 0 1 0 l.length)] [(5,s,.rw 1 (l.map AL))] (λ r _=>r = .row 5 0 1 0 (dg (val l)).length):=by
 have hlen : ∀ n,n<=l.length->l.take n=dg (val l)->n=(dg (val l)).length:=λ n h1 h2=>by
  rw[<-h2,List.length_take];omega
 refine FW 1000 N.FF rfl rfl ?_;(repeat' (apply AE<;>conv=>whnf))
 refine C5 (λ n=>n) (λ(n:Nat)=>n<=l.length /\ ∀ i,n<=i->i<l.length->l[i]? = some 0) (λ n=>[(3,.int .i64 n)]) (λ_=>[]) l.length ⟨Nat.le_refl _,λ i h1 h2=>by omega⟩ ?_;intro n ⟨p1,p2⟩ ih;rcases n with _|n
 ·(repeat' ((first|(apply AG<;>intro hc<;>try omega)|apply AE)<;>conv=>whnf))
  refine GY 0 (by omega) (by omega) ?_;(conv=>whnf)
  refine ⟨rfl,_,rfl,?_⟩;rw[<-hlen 0 p1 (F2 hD p1 p2 (Or.inl rfl))];rfl
 ·have e1:((n+1:Nat):Int)-1=n:=by omega
  (repeat' ((first|(apply AG<;>intro hc<;>try omega)|(apply AY;omega)|(apply B1;omega)|(refine QP (by assumption) ?_ (λ v hv hb => ?_);omega)|apply AE)<;>conv=>whnf))
  ·rw[e1]
   exact BM [] (ih n (by omega) ⟨by omega,λ i h1 h2=>by
    by_cases h:i=n
    ·subst h
     rw[e1,Int.toNat_natCast]at hv;rw[hv];congr 1;omega
    ·exact p2 i (by omega) h2⟩)
  ·refine GY (n+1) (by omega) (by omega) ?_
   (conv=>whnf)
   refine ⟨rfl,_,rfl,?_⟩;rw[e1,Int.toNat_natCast]at hv;rw[<-hlen (n+1) p1 (F2 hD p1 p2 (Or.inr ⟨_,hv,by omega⟩))];rfl
theorem Wm (N:c6 L) (l:List Nat) (s t:Nat) (own:AH) (hD:A0 l) (hl:l.length<=1099511627776) (hb:(own s).c7 t=some ⟨1,l.map AL⟩) (ht:t<(own s).e8) (og:EQ s=true):GO L 65 [.row s t 1 0 l.length] own (.row s t 1 0 (dg (val l)).length) own:=by
 have hs:GC (λ_ _=>(s,t)) own [(5,s,.rw 1 (l.map AL))]:=by
  have key : ∀ k u c,a7 [(5,s,A8.rw 1 (l.map AL))] k u=some c->k=5/\u=0/\c = .rw 1 (l.map AL):=λ k u c e=>by
   simp only[a7,b7]at e;cases hk:Nat.beq k 5<;>simp only[hk,cond_true,cond_false]at e
   ·cases e
   ·cases u with
    | zero=>simp only[Option.some.injEq]at e;exact ⟨Nat.eq_of_beq_eq_true hk,rfl,e.symm⟩
    | succ u=>cases e
  refine ⟨λ k s' c e => ?_,λ k u c e => ?_,λ k u c e=>ht,λ k u k' u' c c' e e' _ => ?_,λ_ _ _ _ _=>og⟩
  ·simp only[b7]at e
   cases hk:Nat.beq k 5<;>simp only[hk,cond_true,cond_false]at e
   ·cases e
   ·simp only[Option.some.injEq,Prod.mk.injEq]at e;exact e.1
  ·obtain ⟨_,_,rfl⟩:=key k u c e
   exact hb
  ·obtain ⟨rfl,rfl,_⟩:=key k u c e
   obtain ⟨rfl,rfl,_⟩:=key k' u' c' e';exact ⟨rfl,rfl⟩
 have hw:=Wn N l s hD hl;unfold A4 at hw;obtain ⟨r,k6,σ',M',h1,h2,h3,rfl⟩:=hw _ own hs;have ho:=Xz N.FF (by decide +kernel) h1;subst ho;have h4:AV.row (σ' 5 0).1 (σ' 5 0).2 1 0 l.length=AV.row s t 1 0 l.length:=h3 0;simp only[AV.row.injEq]at h4;have h5:GO L 65 [.row s t 1 0 l.length] k6 (.row (σ' 5 0).1 (σ' 5 0).2 1 0 (dg (val l)).length) k6:=h1;rw[h4.1,h4.2.1]at h5;exact h5
theorem WK (N:c6 L) {l:List Nat} {tm:Tm} {M:Mem} {K:AV->Mem->Prop} {key s len:Nat} (hD:A0 l) (hl:l.length<=1099511627776) (hm:b7 M key=some (s,.rw 1 (l.map AL))) (hlen:len=l.length) (hk:K (.row key 0 1 0 (dg (val l)).length) M):A4 L 65 [.row key 0 1 0 len] tm M K:=by
 subst hlen;unfold A4;intro σ own hs;have ff:=hs.site _ _ _ hm;have Gq:a7 M key 0=some (.rw 1 (l.map AL)):=by simp only[a7,hm]
 have hb:=hs.c7 _ _ _ Gq;have ht:=hs.old _ _ _ Gq;refine ⟨.row key 0 1 0 (dg (val l)).length,own,σ,M,?_,hs,λ_=>rfl,hk⟩;exact Wm N l (σ key 0).1 (σ key 0).2 own hD hl hb ht (hs.low _ _ _ (D6 hm) rfl)
end Go.b8

namespace Go.b8
open F
attribute [local irreducible] AA AF AQ AC CI AW A5 A9 B4 B3 CE DE BX A3 BW CD AB A4 AJ pw BV BN CS CR C1 CY CT BL DD
set_option maxHeartbeats 4000000
variable {L:Lib}
abbrev bZ (v:List Nat) (j m s xl:Nat):Tm:=[(102,AV.sl false (List.map AL v)),(101,AV.row 71012 0 1 j (v.length+1)),
           (100,AV.int IntKind.i64 (↑j + ↑v.length+1)),(99,AV.int IntKind.i64 (↑j + ↑v.length)),
           (98,AV.int IntKind.i64 ↑v.length),(97,AV.int IntKind.i64 ↑j),(96,AV.int IntKind.i64 ↑j),
           (95,AV.row 71012 0 1 0 (xl+1)),(94,AV.int IntKind.i64 ↑j),(93,AV.row 28 0 1 0 m),
           (90,AV.bool true),(14,AV.int IntKind.i64 ↑j),(13,AV.sl false (List.map AL v)),
           (12,AV.row 71012 0 1 0 (xl+1)),(11,AV.int IntKind.u64 ↑s),(7,AV.row 28 0 1 0 m),
           (6,AV.int IntKind.i64 ↑v.length)]
abbrev Xm:List It:=[It.lp FM.l2,It.c7 2,It.code
      (((BH.ops FM.bu false).dr [9,10,84,85,86,87,118,119,120,121,122,123,124,125,126]
         []).seq
       (((BH.ops FM.dj false).dr [127,128,129,130,131] []).seq
        ((((BH.ops FM.gn false).dr [15,132,133] []).seq
           (BH.cond 134
            (((BH.ops FM.kn false).dr [0,1,5,7,134,135,136] []).seq BH.ret)
            BH.skip)).seq
         (((BH.ops FM.mo false).dr [134] []).seq
          ((((BH.ops FM.rb false).dr [1] []).seq (BH.block 4 FM.l3.loop)).seq
           (((BH.ops FM.vz false).dr
              [0,5,9,137,138,139,140,162,163,164,165,166,167,168,169] []).seq
            (((BH.ops FM.wq false).dr [7,170,171,172] []).seq BH.ret)))))))]
section
variable {A W C w v:List Nat} {j m s xl q:Nat} {K:AV->Mem->Prop}
theorem bQ (hA:A.length=j) (hW:W.length=v.length+1) (D2:A0 W) (eo:A0 v) (gb:2<=v.length) (vn:v.length<=549755813888) (v7:0<val v)
  (r1:q<4294967296) (r2:val W/val v<=q) (r3:q<=val W/val v+1)
  (hk : ∀ (W':List Nat) (o':List (List AV)) (q':Nat),W'.length=v.length+1->A0 W'->val W'=val W%val v->q'=val W/val v->K (.int .u32 (q':Int)) [(71012,71012,.rw 1 ((A++W'++C).map AL)),(28,28,.rw 1 (w.map AL)),(71012,71012,.rw 1 o')])
  (ig : ∀ (W':List Nat) (o':List (List AV)) (q':Nat),W'.length=v.length+1->A0 W'->val W'=val W%val v->q'=val W/val v->K (.int .u32 (q':Int)) [(71012,71012,.rw 1 ((A++W'++C).map AL)),(71012,71012,.rw 1 o'),(28,28,.rw 1 (w.map AL))]) :
  AA L Xm ([(86,.int .i64 0),(85,.int .i64 v.length),(84,.sl false (v.map AL)),(10,.int .u64 0),(9,.int .u64 0),(7,.int .u64 (q:Int)),(5,.int .i64 v.length),(0,AV.row 71012 0 1 j (v.length+1)),(1,AV.sl false (List.map AL v))]++F7 1000 (bZ v j m s xl))
   [(71012,71012,A8.rw 1 (List.map AL (A++W++C))),(28,28,A8.rw 1 (List.map AL w))] (jT 1000 FM (bZ v j m s xl) K):=by
 refine WF (λ i _ _ _=>v.length-i) (λ(i:Nat) (Z:List Nat) (c b:Nat)=>i<=v.length/\Z.length=v.length+1/\A0 Z/\c<4294967296/\b<=1/\Z.drop i=W.drop i/\val (Z.take i)+q*val (v.take i)=val (W.take i)+4294967296^i*(c+b)) (λ i Z c b=>[(86,.int .i64 i),(10,.int .u64 (b:Int)),(9,.int .u64 (c:Int))]) (λ i Z c b=>[(71012,71012,.rw 1 ((A++Z++C).map AL))]) [] [] 0 W 0 0 (by (conv=>whnf);exact ⟨rfl,rfl,rfl⟩) ⟨by omega,hW,D2,by omega,by omega,rfl,by simp [val]⟩ ?_;intro i Z c b ⟨p1,p2,p3,p4,p5,p6,p7⟩ ih;by_cases hi:i<v.length
 ·obtain ⟨d,hd⟩ : ∃ d,v[i]? = some d:=⟨_,zE hi⟩
  obtain ⟨u,hu⟩ : ∃ u,Z[i]? = some u:=⟨_,zE (by omega)⟩;have bb:=eo.at hd;have oo:=p3.at hu;obtain ⟨pr,tf⟩ : ∃ pr,pr=q*d+c:=⟨_,rfl⟩;obtain ⟨m1,m2,m3⟩:=sC r1 bb p4 tf;have xg:W[i]? = some u:=by
   have e1:(Z.drop i)[0]? = (W.drop i)[0]? := by rw[p6]
   simpa [hu] using e1.symm
  (repeat' ((first|(apply AG<;>intro hc<;>try omega)|(apply AY;omega)|(apply FR;omega)|(apply OM;omega)|apply FA|(apply CF;omega)|(refine BA (by assumption) ?_ rfl ?_;omega)|apply AE)<;>conv=>whnf))
  rw[<-tf];refine PO i hu (by omega) ?_;(conv=>whnf)
  (repeat' ((first|(apply AY;omega)|(apply WX;omega)|(apply CF;omega)|apply FI)<;>conv=>whnf))
  obtain ⟨s1,s2⟩:=ZY oo (show pr%4294967296<4294967296 by omega) p5;have g8:=AfI p7 tf rfl oo p5;generalize EH (EH u (pr%4294967296)) b=t at *;refine N2 i (by omega) (by omega) ?_;(conv=>whnf)
  (repeat' ((first|(apply AZ;omega)|apply WU)<;>conv=>whnf))
  refine BS [] (by (conv=>whnf);exact ⟨rfl,rfl,rfl⟩) (ih (i+1) _ _ _ (by omega) ⟨by omega,by simpa using p2,p3.set _ (by omega),m1,s2,?_,?_⟩)
  ·rw[List.drop_set_of_lt (by omega)]
   have e1:(Z.drop i).drop 1=(W.drop i).drop 1:=by rw[p6]
   simpa using e1
  ·rw[FO (by omega),DX hd,DX xg,Nat.pow_succ]
   exact g8
 ·obtain rfl:i=v.length:=by omega
  clear ih;obtain ⟨u,hu⟩ : ∃ u,Z[v.length]? = some u:=⟨_,zE (by omega)⟩;have oo:=p3.at hu;have xg:W[v.length]? = some u:=by
   have e1:(Z.drop v.length)[0]? = (W.drop v.length)[0]? := by rw[p6]
   simpa [hu] using e1.symm
  rw[C3 (Nat.le_refl v.length)]at p7;obtain ⟨s1,s2⟩:=ZY oo p4 p5;have g8:=AfG p7 rfl oo p4 p5;have eW:val W=val (W.take v.length)+4294967296^v.length*u:=by
   rw[<-DX xg,C3 (by omega)]
  rw[<-eW,<-FO (show v.length<Z.length by omega),C3 (by simp;omega)]at g8;(repeat' ((first|(apply AG<;>intro hc<;>try omega)|(apply AY;omega)|apply AE)<;>conv=>whnf))
  refine PO v.length hu (by omega) ?_;(conv=>whnf)
  (repeat' ((first|(apply AY;omega)|(apply WX;omega)|(apply CF;omega)|apply FI)<;>conv=>whnf))
  generalize EH (EH u c) b=t at *;refine N2 v.length (by omega) (by omega) ?_;(conv=>whnf)
  (repeat' ((first|(apply AG<;>intro hc<;>try omega)|apply WU|(apply EA;omega)|apply AU)<;>conv=>whnf))
  ·have Aa:t/9223372036854775808=0:=by omega
   rw[Aa,Nat.mul_zero,Nat.add_zero]at g8;obtain ⟨y1,y2⟩:=mC v7 r2 g8;exact ⟨rfl,_,rfl,hk _ _ _ (by simpa using p2) (p3.set _ (by omega)) y2 y1⟩
  ·have Qg:t/9223372036854775808=1:=by omega
   rw[Qg,Nat.mul_one]at g8;have Fb:A0 (Z.set v.length (t%4294967296)):=p3.set _ (by omega);have De:(Z.set v.length (t%4294967296)).length=v.length+1:=by simpa using p2
   clear p7 p6 p4 p5 s1 s2 eW Qg hu xg oo p1 p2 p3;generalize Z.set v.length (t%4294967296)=X at *;have Dd:=EY Fb;rw[De,Nat.pow_succ]at Dd;obtain ⟨y1,y2,y3⟩:=mB v7 r3 Dd g8;have hRV:val W%val v<val v:=Nat.mod_lt _ v7;have Bc:=EY eo;obtain ⟨xw,qu⟩ : ∃ xw,X[v.length]? = some xw:=⟨_,zE (by omega)⟩;have eX:val X=val (X.take v.length)+4294967296^v.length*xw:=by
    rw[<-DX qu,C3 (by omega)]
   refine FV (λ i _ _=>v.length-i) (λ(i:Nat) (Z:List Nat) (c:Nat)=>i<=v.length/\Z.length=v.length+1/\A0 Z/\c<=1/\Z.drop i=X.drop i/\val (Z.take i)+4294967296^i*c=val (X.take i)+val (v.take i)) (λ i Z c=>[(139,.int .i64 i),(9,.int .u64 (c:Int))]) (λ i Z c=>[(71012,71012,.rw 1 ((A++Z++C).map AL))]) 0 X 0 ⟨by omega,De,Fb,by omega,rfl,by simp [val]⟩ ?_;intro i Z c ⟨p1,p2,p3,p4,p6,p7⟩ ih;by_cases hi:i<v.length
   ·obtain ⟨d,hd⟩ : ∃ d,v[i]? = some d:=⟨_,zE hi⟩
    obtain ⟨u,hu⟩ : ∃ u,Z[i]? = some u:=⟨_,zE (by omega)⟩;have bb:=eo.at hd;have oo:=p3.at hu;have lk:X[i]? = some u:=by
     have e1:(Z.drop i)[0]? = (X.drop i)[0]? := by rw[p6]
     simpa [hu] using e1.symm
    have nb:=kD (d:=d) (w:=u) p7 rfl;(repeat' ((first|(apply AG<;>intro hc<;>try omega)|(apply AY;omega)|(refine BA (by assumption) ?_ rfl ?_;omega)|apply AE)<;>conv=>whnf))
    refine PO i hu (by omega) ?_;(conv=>whnf)
    (repeat' ((first|(apply AY;omega)|(apply FR;omega)|(apply CF;omega)|apply FI)<;>conv=>whnf))
    generalize ht2:u+d+c=t2 at *;refine N2 i (by omega) (by omega) ?_;(conv=>whnf)
    (repeat' ((first|(apply AZ;omega)|apply FA)<;>conv=>whnf))
    refine BS [] (by (conv=>whnf);exact ⟨rfl,rfl,rfl⟩) (ih (i+1) _ _ (by omega) ⟨by omega,by simpa using p2,p3.set _ (by omega),by omega,?_,?_⟩)
    ·rw[List.drop_set_of_lt (by omega)]
     have e1:(Z.drop i).drop 1=(X.drop i).drop 1:=by rw[p6]
     simpa using e1
    ·rw[FO (by omega),DX hd,DX lk,Nat.pow_succ]
     exact nb
   ·obtain rfl:i=v.length:=by omega
    clear ih;obtain ⟨u,hu⟩ : ∃ u,Z[v.length]? = some u:=⟨_,zE (by omega)⟩;have oo:=p3.at hu;have lk:X[v.length]? = some u:=by
     have e1:(Z.drop v.length)[0]? = (X.drop v.length)[0]? := by rw[p6]
     simpa [hu] using e1.symm
    rw[lk]at qu;obtain rfl:u=xw:=by simpa using qu
    rw[C3 (Nat.le_refl v.length)]at p7;have Fe:=EY (p3.take v.length);rw[List.length_take,Nat.min_eq_left (by omega)]at Fe;rw[eX]at y3;have af:=kC p7 y3 (by omega) Fe;rw[<-FO (show v.length<Z.length by omega),C3 (by simp;omega)]at af;(repeat' ((first|(apply AG<;>intro hc<;>try omega)|(apply AY;omega)|apply AE)<;>conv=>whnf))
    refine PO v.length hu (by omega) ?_;(conv=>whnf)
    (repeat' ((first|(apply AY;omega)|apply jN|(apply EA;omega))<;>conv=>whnf))
    refine N2 v.length (by omega) (by omega) ?_;(conv=>whnf)
    (repeat' ((first|(apply IC;omega;omega)|(apply EA;omega))<;>conv=>whnf))
    exact ⟨rfl,_,rfl,ig _ _ _ (by simpa using p2) (p3.set _ (by omega)) af y1⟩
theorem Vd (N:c6 L) (hA:A.length=j) (hW:W.length=v.length+1) (D2:A0 W) (eo:A0 v) (gb:2<=v.length) (vn:v.length<=549755813888) (v7:0<val v)
  (n2:4294967296^(v.length-1)*2147483648<=val v) (g2:val W<4294967296*val v)
  (hk : ∀ (W':List Nat) (o':List (List AV)) (q':Nat),W'.length=v.length+1->A0 W'->val W'=val W%val v->q'=val W/val v->K (.int .u32 (q':Int)) [(71012,71012,.rw 1 ((A++W'++C).map AL)),(28,28,.rw 1 (w.map AL)),(71012,71012,.rw 1 o')])
  (ig : ∀ (W':List Nat) (o':List (List AV)) (q':Nat),W'.length=v.length+1->A0 W'->val W'=val W%val v->q'=val W/val v->K (.int .u32 (q':Int)) [(71012,71012,.rw 1 ((A++W'++C).map AL)),(71012,71012,.rw 1 o'),(28,28,.rw 1 (w.map AL))]) :
  A4 L 73 [AV.row 71012 0 1 j (v.length+1),AV.sl false (List.map AL v)] (bZ v j m s xl) [(71012,71012,A8.rw 1 (List.map AL (A++W++C))),(28,28,A8.rw 1 (List.map AL w))] K:=by
 obtain ⟨UL,a1,a2⟩:=Z7 D2 (n:=v.length+1) (by omega) (by omega);obtain ⟨VL,b5,b6⟩:=wZ eo (n:=v.length) gb (by omega);obtain ⟨u0,w0⟩ : ∃ d,W[v.length]? = some d:=⟨_,zE (by omega)⟩;obtain ⟨u1,w1⟩ : ∃ d,W[v.length-1]? = some d:=⟨_,zE (by omega)⟩;obtain ⟨u2,w2⟩ : ∃ d,W[v.length-2]? = some d:=⟨_,zE (by omega)⟩;obtain ⟨f1,x1⟩ : ∃ d,v[v.length-1]? = some d:=⟨_,zE (by omega)⟩;obtain ⟨f2,x2⟩ : ∃ d,v[v.length-2]? = some d:=⟨_,zE (by omega)⟩;rw[show v.length+1-3=v.length-2 by omega,show v.length+1-2=v.length-1 by omega,show v.length+1-1=v.length by omega,GE w0,GE w1,GE w2]at a2;rw[show v.length+1-3=v.length-2 by omega]at a1;rw[GE x1,GE x2]at b6;have rj:=wL eo (k:=v.length-1) (by omega) n2 x1;have k0:=D2.at w0;have k1:=D2.at w1;have k2:=D2.at w2;have k3:=eo.at x1;have k4:=eo.at x2;have z1:v[((v.length:Int)-1).toNat]? = some f1:=by rw[show ((v.length:Int)-1).toNat=v.length-1 by omega];exact x1
 have z2:v[((v.length:Int)-2).toNat]? = some f2:=by rw[show ((v.length:Int)-2).toNat=v.length-2 by omega];exact x2
 refine FW 1000 N.FM rfl rfl ?_;(repeat' ((first|(apply AY;omega)|apply AU|apply AE)<;>conv=>whnf))
 refine PO v.length w0 (by omega) ?_;(conv=>whnf)
 (repeat' ((first|(apply AY;omega)|(apply B1;omega)|(apply N1;omega)|(apply CF;omega))<;>conv=>whnf))
 refine PO (v.length-1) w1 (by omega) ?_;(conv=>whnf)
 refine jF (by omega) ?_;(conv=>whnf)
 refine ON (by omega) ?_;(conv=>whnf)
 generalize Mu:u0*4294967296+u1=top at *;have tk:top<=18446744073709551615:=by omega
 have hU:val W=UL+4294967296^(v.length-2)*(u2+4294967296*top):=by rw[a2,show u1+4294967296*u0=top by omega]
 (repeat' ((first|(apply B1;omega)|(apply T6;omega)|(apply WT;omega;omega)|(apply CF;omega)|(refine BA (by assumption) ?_ rfl ?_;omega))<;>conv=>whnf))
 refine WE (λ q _=>q) (λ(q r:Nat)=>Gs (val W) (val v) f1 f2 u2 top q r) (λ q r=>[(7,.int .u64 (q:Int)),(8,.int .u64 (r:Int))]) (λ_ _=>[]) [] [] (top/f1) (top%f1) (by (conv=>whnf);exact ⟨rfl,rfl,rfl⟩) (Gs.start hU b6 a1 k2 v7 (by omega) k3) ?_;intro q r g ow;have hqt:q<=top:=by
  have h3:=g.hq;have h4:q*1<=q*f1:=Nat.mul_le_mul_left q (by omega);omega
 have hr:=g.hr;have lv:=g.ge;by_cases hb:4294967296<=q
 ·obtain ⟨y1,y2,y3⟩:=g.next hU b6 a1 v7 g2 (Or.inl hb)
  (repeat' ((first|(apply AG<;>intro hc<;>try omega)|(apply B1;omega)|(apply FR;omega)|(apply IC;omega;omega)|(apply CF;omega)|apply AU|(refine BA (by assumption) ?_ rfl ?_;omega)|apply AE)<;>conv=>whnf))
  ·obtain ⟨t1,t2⟩:=S3 hU b6 b5 rj k4 g2 y2 (Or.inr (by omega))
   exact BS [] (by (conv=>whnf);exact ⟨rfl,rfl,rfl⟩) (bQ (w:=w) (C:=C) hA hW D2 eo gb vn v7 t1 y3 t2 hk ig)
  ·exact BS [] (by (conv=>whnf);exact ⟨rfl,rfl,rfl⟩) (ow (q-1) (r+f1) (by omega) ⟨y2,by omega,y3⟩)
 ·have hmq:=TC (show q<4294967296 by omega) k4
  by_cases o3:r*4294967296+u2<q*f2
  ·obtain ⟨y1,y2,y3⟩:=g.next hU b6 a1 v7 g2 (Or.inr o3)
   (repeat' ((first|(apply AG<;>intro hc<;>try omega)|(apply AY;omega)|(apply B1;omega)|(apply OM;omega)|(apply N1;omega)|(apply CF;omega)|(refine BA (by assumption) ?_ rfl ?_;omega)|apply AE)<;>conv=>whnf))
   refine PO (v.length-2) w2 (by omega) ?_;(conv=>whnf)
   (repeat' ((first|(apply AG<;>intro hc<;>try omega)|(apply B1;omega)|(apply FR;omega)|(apply ON;omega)|(apply IC;omega;omega)|(apply CF;omega)|apply AU|(refine BA (by assumption) ?_ rfl ?_;omega))<;>conv=>whnf))
   ·obtain ⟨t1,t2⟩:=S3 hU b6 b5 rj k4 g2 y2 (Or.inr (by omega))
    exact BS [] (by (conv=>whnf);exact ⟨rfl,rfl,rfl⟩) (bQ (w:=w) (C:=C) hA hW D2 eo gb vn v7 t1 y3 t2 hk ig)
   ·exact BS [] (by (conv=>whnf);exact ⟨rfl,rfl,rfl⟩) (ow (q-1) (r+f1) (by omega) ⟨y2,by omega,y3⟩)
  ·obtain ⟨t1,t2⟩:=S3 hU b6 b5 rj k4 g2 g.hq (Or.inl ⟨by omega,by omega⟩)
   (repeat' ((first|(apply AG<;>intro hc<;>try omega)|(apply AY;omega)|(apply B1;omega)|(apply OM;omega)|(apply N1;omega)|(apply CF;omega)|(refine BA (by assumption) ?_ rfl ?_;omega)|apply AE)<;>conv=>whnf))
   refine PO (v.length-2) w2 (by omega) ?_;(conv=>whnf)
   (repeat' ((first|(apply AG<;>intro hc<;>try omega)|(apply ON;omega)|(apply CF;omega)|apply AU)<;>conv=>whnf))
   exact BS [] (by (conv=>whnf);exact ⟨rfl,rfl,rfl⟩) (bQ (w:=w) (C:=C) hA hW D2 eo gb vn v7 t1 lv t2 hk ig)
end
end Go.b8

namespace Go.b8
open F
attribute [local irreducible] AA AF AQ AC CI AW A5 A9 B4 B3 CE DE BX A3 BW CD AB A4 AJ pw BV BN CS CR C1 CY CT BL DD
variable {L:Lib}
set_option maxHeartbeats 4000000
theorem Ag4 {V R y d t Q:Nat} (h:Q*y+R=V) (ht:t=R*4294967296+d):(t/y+4294967296*Q)*y+t%y=d+4294967296*V:=by
 have:=Nat.div_add_mod t y
 rw[<-h,Nat.add_mul];have e:t/y*y=y*(t/y):=Nat.mul_comm _ _;grind
theorem UM (a b:List Nat):A2 (.e6 [.sl false (a.map AL),.sl false (b.map AL)]):=by
 simp only[A2,B8,and_true,true_and];exact ⟨B5 a,B5 b⟩
set_option maxHeartbeats 4000000 in
theorem cO (N:c6 L) (X Y:Nat) (q1 q2:Bool) (hY:Y≠0) (lx:(dg X).length<=549755813888) (ly:(dg Y).length<=549755813888):Ev L 74 [.sl q1 ((dg X).map AL),.sl q2 ((dg Y).map AL)] (.e6 [.sl false ((dg (X/Y)).map AL),.sl false ((dg (X%Y)).map AL)]):=by
 have k7:=λ q q'=>O0 N (dg X) (dg Y) q q' (DU X) (DU Y) (by omega) (by omega)
 rw[BT,BT]at k7;have d1:=DU X;have d2:=DU Y;have v1:=BT X;have v2:=BT Y;have hy1:=UQ hY;refine Ev.x N.LT rfl rfl ?_;by_cases g9:X<Y
 ·have hn:C2 X Y = -1:=(HR (by omega)).symm
  rw[hn]at k7;(repeat' ((first|(apply AG<;>intro hc<;>try omega)|apply AE|refine AD (k7 _ _) ?_|refine AD (nP N (dg X) _ (by omega)) ?_)<;>conv=>whnf))
  refine AX ?_ (UM _ _);rw[Nat.div_eq_of_lt g9,Nat.mod_eq_of_lt g9,EU];rfl
 have lv:0<=C2 X Y:=by unfold C2;split<;>(try split)<;>omega
 have rz:=PX (show Y<=X by omega);generalize C2 X Y=cm at *;by_cases h1:(dg Y).length=1
 ·-- one digit
  obtain ⟨y0,pq⟩ : ∃ y0,dg Y=[y0]:=List.length_eq_one_iff.1 h1;have wm:Y=y0:=by rw[<-v2,pq];simp [val]
  subst wm;have nr:Y<4294967296:=d2 Y (by rw[pq];simp);have hyg:(dg Y)[0]? = some Y:=by rw[pq];rfl
  clear pq v2;generalize dg Y=y at *;generalize hx:dg X=x at *;(repeat' ((first|(apply AG<;>intro hc<;>try omega)|(apply AZ;omega)|(apply B1;omega)|apply AU|apply AE|refine AD (k7 _ _) ?_)<;>conv=>whnf))
  refine EJ (enc:=AL) 0 x.length rfl (by omega) (by omega) ?_;(conv=>whnf)
  (repeat' ((first|(apply AG<;>intro hc<;>try omega)|(apply B1;omega)|apply AU)<;>conv=>whnf))
  refine FV (λ n _ _=>n) (λ(n:Nat) (o:List Nat) (r:Nat)=>n<=x.length/\o.length=x.length/\A0 o/\r<Y/\val (o.drop n)*Y+r=val (x.drop n)) (λ n o r=>[(8,.int .u64 (r:Int)),(9,.int .i64 ((n:Int)-1))]) (λ n o r=>[(28,28,.rw 1 (o.map AL))]) x.length (List.replicate x.length 0) 0 ⟨by omega,by simp,IG _,by omega,by rw[List.drop_of_length_le (Nat.le_refl _),List.drop_of_length_le (by simp)];simp [val]⟩ ?_;intro n o r ⟨p1,p2,p3,p4,p5⟩ ih;rcases n with _|n
  ·rw[List.drop_zero,List.drop_zero]at p5
   have hq:X/Y=val o/\X%Y=r:=by
    rw[<-v1,<-p5];have e1:(val o*Y+r)/Y=val o:=by
     rw[Nat.mul_comm,Nat.mul_add_div (by omega),Nat.div_eq_of_lt p4,Nat.add_zero]
    have e2:(val o*Y+r)%Y=r:=by
     rw[Nat.mul_comm,Nat.mul_add_mod,Nat.mod_eq_of_lt p4]
    exact ⟨e1,e2⟩
   rw[hq.1,hq.2,<-p2];clear ih hq p5;have mb:=EO p3;have w6:A0 [r]:=G2 (by omega);have fr:=EO w6;have Im:val [r]=r:=by simp [val]
   have Pw:[r].length=1:=rfl;(repeat' ((first|(apply AG<;>intro hc<;>try omega)|(apply EA;omega)|apply AE|refine WK N (by assumption) (by omega) rfl (by first|rfl|omega|assumption) ?_)<;>conv=>whnf))
   refine HD (enc:=AL) (λ_=>rfl) (by omega) ?_;(conv=>whnf)
   refine HD (enc:=AL) (l:=[r]) (λ_=>rfl) (by omega) ?_;(conv=>whnf)
   refine AX ?_ (UM _ _);rw[List.drop_zero,List.drop_zero,V6 p3,V6 w6,Im]
  ·have e1:((n+1:Nat):Int)-1=n:=by omega
   rw[e1];obtain ⟨d,hd⟩ : ∃ d,x[n]? = some d:=⟨_,zE (by omega)⟩;have bb:=d1.at hd;have hYb:Y<4294967296:=nr;have hR:r*4294967296+d<Y*4294967296:=by omega
   have jl:(r*4294967296+d)/Y<4294967296:=(Nat.div_lt_iff_lt_mul (by omega)).2 (by omega);(repeat' ((first|(apply AG<;>intro hc<;>try omega)|(apply AY;omega)|(apply N1;omega)|(apply ON;omega)|(apply WT;omega;omega)|(apply CF;omega)|(apply EA;omega)|(refine BA (by assumption) ?_ rfl ?_;omega)|apply AE)<;>conv=>whnf))
   obtain ⟨t,ht⟩ : ∃ t,t=r*4294967296+d:=⟨_,rfl⟩;rw[<-ht]at hR jl ⊢;have hm:t%Y<Y:=Nat.mod_lt _ (by omega);have g8:=Ag4 p5 ht;rw[<-GX hd]at g8;clear ht;skip
   refine E6 (by omega) ?_;(conv=>whnf)
   (repeat' ((first|(apply B1;omega)|(apply T6;omega)|(apply CF;omega)|(refine BA (by assumption) ?_ rfl ?_;omega))<;>conv=>whnf))
   generalize t/Y=tq at *;generalize t%Y=tr at *;refine BS [] (by (conv=>whnf);exact ⟨rfl,rfl,rfl⟩) (ih n _ _ (by omega) ⟨by omega,by simpa using p2,p3.set _ (by omega),hm,?_⟩);rw[GX (l:=o.set n tq) (d:=tq) (by rw[List.getElem?_set_self (by omega)]),List.drop_set_of_lt (by omega)];exact g8
 ·-- two digits or more
  have Gd:2<=(dg Y).length:=by omega
  obtain ⟨yt,yf,yg⟩:=bP hY;have vq:=d2.at yf;obtain ⟨b1,b2,b3,b4⟩:=eI yg vq;have Fy:=nS N yt vq;generalize hs:32-m6 yt=s at *;have cg:s<=31:=by omega
  generalize dg Y=y at *;generalize hx:dg X=x at *;have e1:((y.length:Int)-1).toNat=y.length-1:=by omega
  rw[<-e1]at yf;obtain ⟨rv,Ds,v,hV,mh,Md⟩:=Zo N y q2 s y.length d2 cg (by omega) (by omega);subst Md;(repeat' ((first|(apply AG<;>intro hc<;>try omega)|(apply AZ;omega)|(apply B1;omega)|apply AU|apply AE|refine AD (k7 _ _) ?_)<;>conv=>whnf))
  refine EJ (enc:=AL) 0 (x.length-y.length+1) rfl (by omega) (by omega) ?_;(conv=>whnf)
  (repeat' ((first|(apply AG<;>intro hc<;>try omega)|(apply AZ;omega)|(apply B1;omega)|(apply CF;omega)|apply AU|(refine BA (by assumption) ?_ rfl ?_;omega)|refine AD (Fy) ?_)<;>conv=>whnf))
  refine FW 1000 N.I8 rfl rfl ?_;(repeat' (apply AE<;>conv=>whnf))
  refine EJ (enc:=AL) 0 (x.length+1) rfl (by omega) (by omega) ?_;(conv=>whnf)
  (repeat' (apply AU<;>conv=>whnf))
  have ti:=VO (s:=s) (by omega);refine FV (λ i _ _=>x.length-i) (λ(i:Nat) (o:List Nat) (lo:Nat)=>i<=x.length/\o.length=x.length+1/\A0 o/\lo<2^s/\val (o.take i)+4294967296^i*lo=val (x.take i)*2^s) (λ i o lo=>[(8,.int .u32 (lo:Int)),(15,.int .i64 i)]) (λ i o lo=>[(71012,71012,.rw 1 (o.map AL))]) 0 (List.replicate (x.length+1) 0) 0 ⟨by omega,by simp,IG _,Nat.two_pow_pos s,by simp [val]⟩ ?_;intro i o lo ⟨p1,p2,p3,p4,p5⟩ ih;by_cases hi:i<x.length
  ·obtain ⟨d,hd⟩ : ∃ d,x[i]? = some d:=⟨_,zE hi⟩
   have bb:=d1.at hd;obtain ⟨f1,f2,f3,f4⟩:=RV (s:=s) bb (by omega);(repeat' ((first|(apply AG<;>intro hc<;>try omega)|(refine BA (by assumption) ?_ rfl ?_;omega)|apply AE)<;>conv=>whnf))
   refine jQ (by omega) ?_;(conv=>whnf)
   skip
   refine aJ s f1 p4 (by omega) ?_;(conv=>whnf)
   (repeat' ((first|(apply AY;omega)|fail)<;>conv=>whnf))
   refine E6 (by omega) ?_;(conv=>whnf)
   (repeat' ((first|(apply CF;omega)|fail)<;>conv=>whnf))
   refine OP (by omega) f4 ?_;(conv=>whnf)
   (repeat' ((first|(apply AZ;omega)|apply FA|(apply EA;omega))<;>conv=>whnf))
   rw[<-RU];refine BS [] (by (conv=>whnf);exact ⟨rfl,rfl,rfl⟩) (ih (i+1) _ _ (by omega) ⟨by omega,by simpa using p2,p3.set _ (by omega),f2,?_⟩);rw[FO (by omega),DX hd,Nat.pow_succ];exact rD p5
  obtain rfl:i=x.length:=by omega
  clear ih;(repeat' ((first|(apply AG<;>intro hc<;>try omega)|(apply AY;omega)|apply AU|apply AE)<;>conv=>whnf))
  refine E6 (by omega) ?_;(conv=>whnf)
  skip
  have hU:=rC p3 (by omega) p2 p5;have qk:(o.set x.length lo).length=x.length+1:=by simpa using p2
  clear p3 p4 p5 p2;generalize o.set x.length lo=u at *;refine ⟨rfl,_,rfl,?_⟩;(conv=>whnf)
  (repeat' ((first|(apply B1;omega)|apply AU|refine AD (Ds) ?_)<;>conv=>whnf))
  have Ng:y[y.length-1]? = some yt:=by rw[<-e1];exact yf
  obtain ⟨n1,n2⟩:=dZ d2 Ng (by omega) cg b3 b4;have Ht:val v=Y*2^s:=by rw[<-v2];exact hV.2.2 (by rw[mh];exact n1)
  have Hs:val u=X*2^s:=by
   rw[<-v1];refine hU.2.2 ?_;have h3:=EY d1;rw[qk,Nat.pow_succ];exact Nat.lt_of_lt_of_le (Nat.mul_lt_mul_of_pos_right h3 (Nat.two_pow_pos s)) (Nat.mul_le_mul_left _ ti)
  have eo:=hV.1;have Hq:=hU.1;have Bd:=EY eo;rw[v2,<-Ht]at n2;rw[<-mh]at n2;clear hV hU k7 Ds Fy;have gb:2<=v.length:=by omega
  have hvx:v.length<=x.length:=by omega
  have vn:v.length<=549755813888:=by omega
  have hxL:x.length<=549755813888:=by omega
  have hX:X<4294967296^x.length:=by rw[<-v1];exact EY d1
  rw[<-mh];generalize hm:x.length-v.length+1=m at *;have v7:0<val v:=by
   have:=tQ (v.length-1)
   omega
  have uo:val (u.drop m)<val v:=by
   have h1:=JR u m (by omega);rw[Hs]at h1;have h2:X*2^s<4294967296^x.length*2147483648:=Nat.lt_of_lt_of_le (Nat.mul_lt_mul_of_pos_right hX (Nat.two_pow_pos s)) (Nat.mul_le_mul_left _ (Nat.pow_le_pow_right (by omega) cg));have h3:4294967296^x.length=4294967296^m*4294967296^(v.length-1):=by rw[<-Nat.pow_add];congr 1;omega
   rw[h3,Nat.mul_assoc]at h2;refine Nat.lt_of_lt_of_le ?_ n2;refine Nat.lt_of_mul_lt_mul_left (a:=4294967296^m) ?_;omega
  have e2:(x.length:Int)-v.length=((m:Nat):Int)-1:=by omega
  rw[e2];refine FV (λ n _ _=>n) (λ(n:Nat) (o w:List Nat)=>n<=m/\o.length=x.length+1/\A0 o/\w.length=m/\A0 w/\val (o.drop n)<val v/\X*2^s=val (o.take n)+4294967296^n*(val (w.drop n)*val v+val (o.drop n))) (λ n o w=>[(14,.int .i64 ((n:Int)-1))]) (λ n o w=>[(71012,71012,.rw 1 (o.map AL)),(28,28,.rw 1 (w.map AL))]) m u (List.replicate m 0) ⟨by omega,qk,Hq,by simp,IG _,uo,by rw[<-Hs,List.drop_of_length_le (show (List.replicate m 0).length<=m by simp),IB,Nat.zero_mul,Nat.zero_add];exact JR u m (by omega)⟩ ?_;intro n o w ⟨p1,p2,p3,p4,p5,p6,p7⟩ ih;rcases n with _|j
  ·clear ih
   rw[List.drop_zero]at p6;rw[List.take_zero,List.drop_zero,List.drop_zero,IB,Nat.zero_add,Nat.pow_zero,Nat.one_mul]at p7;have je:val o=val (o.take v.length):=by
    have h1:=R6 o v.length;rcases Nat.eq_zero_or_pos (val (o.drop v.length)) with h2|h2
    ·rw[h2,Nat.mul_zero,Nat.add_zero]at h1;exact h1
    ·have h3:4294967296^v.length*1<=4294967296^v.length*val (o.drop v.length):=Nat.mul_le_mul_left _ h2
     omega
   have xh:X/Y=val w/\X%Y=val o/2^s:=by
    obtain ⟨z1,z2⟩:=mE (X:=X) (Y:=Y) (Nat.two_pow_pos s);rw[<-z1,<-z2,<-Ht,p7];have e1:(val w*val v+val o)/val v=val w:=by
     rw[Nat.mul_comm,Nat.mul_add_div v7,Nat.div_eq_of_lt p6,Nat.add_zero]
    have e2:(val w*val v+val o)%val v=val o:=by
     rw[Nat.mul_comm,Nat.mul_add_mod,Nat.mod_eq_of_lt p6]
    rw[e1,e2];exact ⟨rfl,rfl⟩
   rw[xh.1,xh.2];have mb:=EO p5;obtain ⟨ro,Gt,o2,k1,k2,k3,k4⟩:=Zp N (o.take v.length) true s (p3.take _) cg (by rw[List.length_take];omega);subst k4;rw[je,<-k3];have fr:=EO k1;rw[List.length_take]at k2;clear p7 xh uo;(repeat' ((first|(apply AG<;>intro hc<;>try omega)|apply AE|refine WK N (by assumption) (by omega) rfl (by first|rfl|omega|assumption) ?_)<;>conv=>whnf))
   refine GY v.length rfl (by omega) ?_;(conv=>whnf)
   refine HD (enc:=AL) (λ_=>rfl) (by omega) ?_;(conv=>whnf)
   rw[List.drop_zero,Nat.sub_zero];(repeat' ((first|refine AD (Gt) ?_|refine JU (KA N o2 _ k1 (by omega)) ?_)<;>conv=>whnf))
   refine HD (enc:=AL) (λ_=>rfl) (by omega) ?_;(conv=>whnf)
   refine AX ?_ (UM _ _);rw[List.drop_zero,V6 p5]
  ·have e3:((j+1:Nat):Int)-1=j:=by omega
   rw[e3];have e4:(v.length:Int).toNat=v.length:=by omega
   obtain ⟨A,W,C,hA,hW,rfl⟩:=mV o j (v.length+1) (by omega);obtain ⟨g1,g2,g3⟩:=mX hA hW p3 p6 Bd;obtain ⟨D1,D2,D3⟩:=mA p3;have vb:val W/val v<4294967296:=(Nat.div_lt_iff_lt_mul v7).2 g2;have Kg:val W=val W/val v*val v+val W%val v:=by rw[Nat.mul_comm];exact (Nat.div_add_mod _ _).symm
   have Fa:val W%val v<val v:=Nat.mod_lt _ v7;have Bb:X*2^s=val A+4294967296^j*val W+4294967296^j*4294967296*(val (w.drop (j+1))*val v):=by
    rw[p7,Nat.mul_add,<-g3,Nat.pow_succ];omega
   have qj:=mW Bb Kg;have yc : ∀ q',q'=val W/val v->val ((w.set j q').drop j)=val W/val v+4294967296*val (w.drop (j+1)):=λ q' h=>by
    rw[GX (l:=w.set j q') (d:=q') (by rw[List.getElem?_set_self (by omega)]),List.drop_set_of_lt (by omega),h]
   have hlen : ∀ W':List Nat,W'.length=v.length+1->(A++W'++C).length=x.length+1:=λ W' h=>by
    rw[<-p2];simp [h,hW]
   (repeat' ((first|(apply AG<;>intro hc<;>try omega)|(apply AZ;omega)|(apply iZ;omega)|apply AE)<;>conv=>whnf))
   rw[show ((j:Int)+v.length+1).toNat-(j:Int).toNat=v.length+1 by omega,show 0+(j:Int).toNat=j by omega];refine Vd N hA hW D2 eo gb vn v7 n2 g2 (λ W' o' q' z1 z2 z3 z4 => ?_) (λ W' o' q' z1 z2 z3 z4 => ?_)
   ·(conv=>whnf)
    (repeat' ((first|(apply AY;omega)|fail)<;>conv=>whnf))
    refine E6 (by omega) ?_;(conv=>whnf)
    (repeat' ((first|(apply B1;omega)|fail)<;>conv=>whnf))
    obtain ⟨t1,t2⟩:=cA (A:=A) (W:=W') (C:=C) (j:=j) hA g1;refine BS [] (by (conv=>whnf);exact ⟨rfl,rfl,rfl⟩) (ih j (A++W'++C) (w.set j q') (by omega) ⟨by omega,hlen W' z1,(D1.append z2).append D3,by simpa using p4,p5.set _ (by omega),by omega,?_⟩);rw[t1,t2,yc q' z4,z3];exact qj
   ·(conv=>whnf)
    (repeat' ((first|(apply AY;omega)|fail)<;>conv=>whnf))
    refine E6 (by omega) ?_;(conv=>whnf)
    (repeat' ((first|(apply B1;omega)|fail)<;>conv=>whnf))
    obtain ⟨t1,t2⟩:=cA (A:=A) (W:=W') (C:=C) (j:=j) hA g1;refine BS [] (by (conv=>whnf);exact ⟨rfl,rfl,rfl⟩) (ih j (A++W'++C) (w.set j q') (by omega) ⟨by omega,hlen W' z1,(D1.append z2).append D3,by simpa using p4,p5.set _ (by omega),by omega,?_⟩);rw[t1,t2,yc q' z4,z3];exact qj
end Go.b8

namespace Go.b8
open F
attribute [local irreducible] AA AF AQ AC CI AW A5 A9 B4 B3 CE DE BX A3 BW CD AB A4 AJ pw BV BN CS CR C1 CY CT BL DD
set_option maxHeartbeats 4000000
variable {L:Lib}
theorem jR {k':IntKind} {a:Int} {K:AV->Prop} (hk:K (.int .i64 (a/4294967296))):AC .shr .i64 a k' 32 K:=by
 refine zQ (by omega) ?_;have:pw 32=4294967296:=by decide +kernel
 rw[this];exact hk
theorem jE {t:Int} {K:Int->Prop} (hk:K (UO t:Int)):A1 .u32 t K:=by
 refine ⟨?_⟩;rw[IntKind.wrap_u32,<-bB];exact hk
section
variable {k':IntKind} {a b:Nat} {K:AV->Prop}
theorem zP {i:Nat} (hi:i<2) (ha:a<4294967296) (hk:K (.int .u64 ((a*4294967296^i:Nat):Int))):AC .shl .u64 (a:Int) k' (32*(i:Int)) K:=by
 rcases i with _|_|i
 ·exact OP (s:=0) (by omega) (by omega) hk
 ·exact OP (s:=32) (by omega) (by omega) hk
 ·omega
end
theorem qF {x y M N:Int} (hx : -M<=x/\x<=M) (hy : -N<=y/\y<=N) : -(M*N)<=x*y/\x*y<=M*N:=by
 have h1:x.natAbs<=M.natAbs:=by omega
 have h2:y.natAbs<=N.natAbs:=by omega
 have h3:=Nat.mul_le_mul h1 h2;rw[<-Int.natAbs_mul,<-Int.natAbs_mul]at h3;have h4:0<=M*N:=Int.mul_nonneg (by omega) (by omega);omega
theorem cM (N:c6 L) (a b:List Nat) (q1 q2:Bool) (hA:A0 a) (hB:A0 b) (la:a.length<=549755813888) (lb:b.length<=549755813888) (h0:val b≠0) :
  Ev L 75 [.sl q1 (a.map AL),.sl q2 (b.map AL)] (.e6 [.sl false ((dg (val a/val b)).map AL),.sl false ((dg (val a%val b)).map AL),.int .i64 0]):=by
 have l1:=EO hA;have l2:=EO hB;have hp:=UQ h0;refine Ev.x N.LM rfl rfl ?_;(repeat' ((first|(apply AG<;>intro hc<;>try omega)|apply AU|apply AE|refine JU (KA N a _ hA (by omega)) ?_|refine JU (KA N b _ hB (by omega)) ?_|refine AD (cO N _ _ _ _ h0 (by omega) (by omega)) ?_)<;>conv=>whnf))
 refine AX rfl ?_;simp only[A2,B8,and_true,true_and];exact ⟨B5 _,B5 _⟩
theorem oG (N:c6 L) (V:Nat) (q:Bool) (hl:(dg V).length<=2):Ev L 76 [.sl q ((dg V).map AL)] (.int .u64 (V:Int)):=by
 have hV:=N9.1 hl;have hD:=DU V;have hv:=BT V;refine Ev.x N.LX rfl rfl ?_;generalize dg V=l at *;(repeat' ((first|apply AU|apply AE)<;>conv=>whnf))
 refine JS (λ i _=>l.length-i) (λ(i:Nat) (a:Nat)=>i<=l.length/\a=val (l.take i)) (λ i a=>[(3,.int .u64 (a:Int)),(8,.int .i64 i)]) (λ_ _=>[]) 0 0 ⟨by omega,rfl⟩ ?_;intro i a ⟨p1,p2⟩ ih;by_cases hi:i<l.length
 ·obtain ⟨d,hd⟩ : ∃ d,l[i]? = some d:=⟨_,zE hi⟩
  have bb:=hD.at hd;have h1:=DX hd;have h2:=EY (hD.take i);have h3:=EY (hD.take (i+1));rw[List.length_take,Nat.min_eq_left (by omega)]at h2 h3;have h4:4294967296^(i+1)<=4294967296^2:=Nat.pow_le_pow_right (by omega) (by omega);(repeat' ((first|(apply AG<;>intro hc<;>try omega)|(apply N0;omega)|(apply CF;omega)|(refine BA (by assumption) ?_ rfl ?_;omega)|apply AE)<;>conv=>whnf))
  refine zP (by omega) bb ?_;(conv=>whnf)
  rw[Nat.mul_comm d];refine WS (32*i) (by rw[Nat.pow_mul];exact Nat.mul_mod_right _ _) (by rw[Nat.pow_mul,p2];exact h2) (by omega) ?_;(conv=>whnf)
  (repeat' ((first|(apply AZ;omega)|fail)<;>conv=>whnf))
  exact BS [] (by (conv=>whnf);exact ⟨rfl,rfl,rfl⟩) (ih (i+1) _ (by omega) ⟨by omega,by rw[h1,p2]⟩)
 ·obtain rfl:i=l.length:=by omega
  clear ih;(repeat' ((first|(apply AG<;>intro hc<;>try omega)|apply AE)<;>conv=>whnf))
  rw[C3 (Nat.le_refl _)]at p2;exact C6 (by omega)
theorem aC {f:Nat} {vs:List AV} {tm:Tm} {M:Mem} {K:AV->Mem->Prop} {v:AV} (h:A4 L f vs tm M (λ r M'=>r=v/\M'=M)) (hk:K v M):A4 L f vs tm M K:=by
 unfold A4 at h ⊢;intro σ own hs;obtain ⟨r,k6,σ',M',h1,h2,h3,rfl,rfl⟩:=h σ own hs;exact ⟨_,k6,σ',_,h1,h2,h3,hk⟩
theorem oF (N:c6 L) (a:List Nat) (q:Bool) (n s:Nat) (hD:A0 a) (hn:3<=n) (hl:a.length<=n) (Gd:n<=549755813888) (hs:s<=31) (g9:val a*2^s<4294967296^n) :
  Ev L 78 [.sl q (a.map AL),.int .i64 (n:Int),.int .u64 (s:Int)] (.int .i64 ((val a/S6 n s:Nat):Int)):=by
 have b1:=P3 hD (n-1);have b2:=P3 hD (n-2);have b3:=P3 hD (n-3);have ui:=qR hD hn hl rfl rfl g9;have heq:=qQ (s:=s) hD hn hl hs rfl rfl rfl;obtain ⟨f1,f2,f3,f4⟩:=RV (s:=s) b3 (by omega);refine Ev.x N.LU rfl rfl ?_;(repeat' ((first|(apply AY;omega)|(apply B1;omega)|apply AE)<;>conv=>whnf))
 refine aC (v := .int .u64 ((a.getD (n-1) 0:Nat):Int)) ?_ ?_
 ·refine FW 1000 N.HW rfl rfl ?_
  (repeat' ((first|(apply AG<;>intro hc<;>try omega)|(apply CF;omega)|apply AU|(refine PP (by assumption) ?_ (λ e he hb => ?_);omega)|apply AE)<;>conv=>whnf))
  ·refine ⟨rfl,_,rfl,?_,rfl⟩
   rw[show ((n:Int)-1).toNat=n-1 by omega]at he;rw[GE he];rfl
  ·refine ⟨rfl,_,rfl,?_,rfl⟩
   rw[<-getD_none (show a.length<=n-1 by omega)];rfl
 (conv=>whnf)
 (repeat' ((first|(apply AY;omega)|(apply B1;omega)|(apply N1;omega))<;>conv=>whnf))
 refine aC (v := .int .u64 ((a.getD (n-2) 0:Nat):Int)) ?_ ?_
 ·refine FW 1000 N.HW rfl rfl ?_
  (repeat' ((first|(apply AG<;>intro hc<;>try omega)|(apply CF;omega)|apply AU|(refine PP (by assumption) ?_ (λ e he hb => ?_);omega)|apply AE)<;>conv=>whnf))
  ·refine ⟨rfl,_,rfl,?_,rfl⟩
   rw[show ((n:Int)-2).toNat=n-2 by omega]at he;rw[GE he];rfl
  ·refine ⟨rfl,_,rfl,?_,rfl⟩
   rw[<-getD_none (show a.length<=n-2 by omega)];rfl
 (conv=>whnf)
 generalize a.getD (n-1) 0=d1 at *;generalize a.getD (n-2) 0=d2 at *;(repeat' ((first|(apply ON;omega)|fail)<;>conv=>whnf))
 refine OP (by omega) ui ?_;(conv=>whnf)
 generalize hT:(d1*4294967296+d2)*2^s=T at *;(repeat' ((first|(apply AY;omega)|(apply B1;omega))<;>conv=>whnf))
 refine aC (v := .int .u64 ((a.getD (n-3) 0:Nat):Int)) ?_ ?_
 ·refine FW 1000 N.HW rfl rfl ?_
  (repeat' ((first|(apply AG<;>intro hc<;>try omega)|(apply CF;omega)|apply AU|(refine PP (by assumption) ?_ (λ e he hb => ?_);omega)|apply AE)<;>conv=>whnf))
  ·refine ⟨rfl,_,rfl,?_,rfl⟩
   rw[show ((n:Int)-3).toNat=n-3 by omega]at he;rw[GE he];rfl
  ·refine ⟨rfl,_,rfl,?_,rfl⟩
   rw[<-getD_none (show a.length<=n-3 by omega)];rfl
 (conv=>whnf)
 generalize a.getD (n-3) 0=d3 at *;skip
 refine OP (by omega) f4 ?_;(conv=>whnf)
 (repeat' (apply FA<;>conv=>whnf))
 rw[RU]at f2;refine jP s (by rw[<-hT];exact Nat.mul_mod_left _ _) f2 (by have:=YU (k:=d1*4294967296+d2) (show s<=64 by omega) (by omega);omega) ?_;(conv=>whnf)
 (repeat' ((first|apply zL|(apply QK;omega))<;>conv=>whnf))
 rw[heq];exact C6 rfl
theorem Zm (N:c6 L) (P Q:Int) (hP:0<=P/\P<=4611686018427387904) (hQ:0<=Q/\Q<=4611686018427387904) : ∃ r,Ev L 79 [.int .i64 P,.int .i64 Q] r /\ ∃ a b c d:Int,(aF a b c d/\(-2147483647<=a/\a<=2147483647)/\(-2147483647<=b/\b<=2147483647)/\(-2147483647<=c/\c<=2147483647)/\(-2147483647<=d/\d<=2147483647))/\(b≠0->T5 P Q a b c d)/\r = .e6 [.int .i64 a,.int .i64 b,.int .i64 c,.int .i64 d]:=by
 refine Ev.xE N.LQ rfl rfl ?_;(repeat' (apply AE<;>conv=>whnf))
 refine xK (λ_ _ _ _ _ q=>(q+2147483648).toNat) (λ(a b c d p q:Int)=>QO P Q a b c d p q/\((-2147483647<=a/\a<=2147483647)/\(-2147483647<=b/\b<=2147483647)/\(-2147483647<=c/\c<=2147483647)/\(-2147483647<=d/\d<=2147483647))/\(p<=4611686018427387904/\q<=4611686018427387904)/\SE P Q a b c d/\(b≠0->T5 P Q a b c d)) (λ a b c d p q=>[(0,.int .i64 p),(1,.int .i64 q),(4,.int .i64 a),(5,.int .i64 b),(6,.int .i64 c),(7,.int .i64 d)]) (λ_ _ _ _ _ _=>[]) [] [] 1 0 0 1 P Q (by (conv=>whnf);exact ⟨rfl,rfl,rfl⟩) ⟨QO.start hP.1 hQ.1,by omega,by omega,SE.start P Q,λ h=>absurd rfl h⟩ ?_;intro a b c d p q ⟨p1,⟨⟨p2,p2'⟩,⟨p3,p3'⟩,⟨p4,p4'⟩,⟨p5,p5'⟩⟩,⟨p6,p7⟩,p8,p9⟩ ih;have g1:=p1.pa;have g2:=p1.pb;have g3:=p1.qc;have g4:=p1.qd;by_cases bh:q+c=0
 ·(repeat' ((first|(apply AG<;>intro hc<;>try omega)|(apply AZ;omega)|apply AE)<;>conv=>whnf))
  refine ⟨.e6 [.int .i64 a,.int .i64 b,.int .i64 c,.int .i64 d],?_,a,b,c,d,⟨p1.sg,by omega⟩,p9,rfl⟩;(conv=>whnf)
  exact AX rfl (by simp [A2,B8])
 by_cases Df:q+d=0
 ·(repeat' ((first|(apply AG<;>intro hc<;>try omega)|(apply AZ;omega)|apply AE)<;>conv=>whnf))
  refine ⟨.e6 [.int .i64 a,.int .i64 b,.int .i64 c,.int .i64 d],?_,a,b,c,d,⟨p1.sg,by omega⟩,p9,rfl⟩;(conv=>whnf)
  exact AX rfl (by simp [A2,B8])
 by_cases hff:(p+a)/(q+c)=(p+b)/(q+d)
 ·obtain ⟨s1,s2,s3,s4⟩:=p1.step bh Df rfl hff
  have s5:=s4 p8;have s6:=s5.half;have s7:=s1.qc;by_cases jy:2147483647<(p+a)/(q+c)
  ·(repeat' ((first|(apply AG<;>intro hc<;>try omega)|(apply AZ;omega)|(refine QR ?_ ?_ (λ_ => ?_) (λ_ _ => ?_);omega;omega;all_goals try omega)|apply AE)<;>conv=>whnf))
   refine ⟨.e6 [.int .i64 a,.int .i64 b,.int .i64 c,.int .i64 d],?_,a,b,c,d,⟨p1.sg,by omega⟩,p9,rfl⟩;(conv=>whnf)
   exact AX rfl (by simp [A2,B8])
  ·have t1:=qF (x:=(p+a)/(q+c)) (y:=c) (M:=2147483647) (N:=2147483647) (by omega) (by omega)
   have t2:=qF (x:=(p+a)/(q+c)) (y:=d) (M:=2147483647) (N:=2147483647) (by omega) (by omega);(repeat' ((first|(apply AG<;>intro hc<;>try omega)|(apply AZ;omega)|(apply B1;omega)|(apply N0;omega)|(refine QR ?_ ?_ (λ_ => ?_) (λ_ _ => ?_);omega;omega;all_goals try omega)|(apply CI.neg;omega)|apply AE)<;>conv=>whnf))
   all_goals first
    | exact BS [] (by (conv=>whnf);exact ⟨rfl,rfl,rfl⟩) (ih _ _ _ _ _ _ (by omega) ⟨s1,by omega,by omega,s6,λ_=>s5⟩)
    |(refine ⟨.e6 [.int .i64 a,.int .i64 b,.int .i64 c,.int .i64 d],?_,a,b,c,d,⟨p1.sg,by omega⟩,p9,rfl⟩
      (conv=>whnf)
      exact AX rfl (by simp [A2,B8]))
 ·(repeat' ((first|(apply AG<;>intro hc<;>try omega)|(apply AZ;omega)|(refine QR ?_ ?_ (λ_ => ?_) (λ_ _ => ?_);omega;omega;all_goals try omega)|apply AE)<;>conv=>whnf))
  refine ⟨.e6 [.int .i64 a,.int .i64 b,.int .i64 c,.int .i64 d],?_,a,b,c,d,⟨p1.sg,by omega⟩,p9,rfl⟩;(conv=>whnf)
  exact AX rfl (by simp [A2,B8])
theorem Zn (N:c6 L) (x y:List Nat) (q1 q2:Bool) (f g:Int) (hX:A0 x) (hY:A0 y) (hl:y.length<=x.length) (lx:x.length<=549755813888) (hs:PM f g) (R:Nat) (hR:(R:Int)=f*val x+g*val y) (Jw:R<=val x) :
  Ev L 80 [.sl q1 (x.map AL),.sl q2 (y.map AL),.int .i64 f,.int .i64 g] (.sl false ((dg R).map AL)):=by
 refine Ev.x N.LR rfl rfl ?_;(repeat' ((first|apply AU|apply AE)<;>conv=>whnf))
 refine EJ (enc:=AL) 0 x.length rfl rfl (by omega) ?_;(conv=>whnf)
 (repeat' (apply AU<;>conv=>whnf))
 refine FV (λ i _ _=>x.length-i) (λ(i:Nat) (o:List Nat) (c:Int)=>i<=x.length/\o.length=x.length/\A0 o /\ -2147483648<=c/\c<=2147483648/\(val (o.take i):Int)+((4294967296^i:Nat):Int)*c=f*val (x.take i)+g*val (y.take i)) (λ i o c=>[(10,.int .i64 c),(19,.int .i64 i)]) (λ i o c=>[(16,16,.rw 1 (o.map AL))]) 0 (List.replicate x.length 0) 0 ⟨by omega,by simp,IG _,by omega,by omega,by simp [val]⟩ ?_;intro i o c ⟨p1,p2,p3,p4,p5,p6⟩ ih;by_cases hi:i<x.length
 ·obtain ⟨d,hd⟩ : ∃ d,x[i]? = some d:=⟨_,zE hi⟩
  have bb:=hX.at hd;have h1:=DX hd;by_cases hy:i<y.length
  ·obtain ⟨e,he⟩ : ∃ e,y[i]? = some e:=⟨_,zE hy⟩
   have Ky:=hY.at he;have h2:=DX he;obtain ⟨r1,r2,r3⟩:=hs.Rj bb Ky;have g8:=lG (d:=d) (e:=e) p6 rfl;(repeat' ((first|(apply AG<;>intro hc<;>try omega)|(apply AZ;omega)|(apply N0;omega)|(apply QK;omega)|apply AU|(refine BA (by assumption) ?_ rfl ?_;omega)|apply AE)<;>conv=>whnf))
   generalize Il:f * ↑d+c+g * ↑e=t at *;refine jE ?_;(conv=>whnf)
   (repeat' ((first|(apply AY;omega)|fail)<;>conv=>whnf))
   refine E6 (by omega) ?_;(conv=>whnf)
   refine jR ?_;(conv=>whnf)
   (repeat' ((first|(apply AZ;omega)|fail)<;>conv=>whnf))
   refine BS [] (by (conv=>whnf);exact ⟨rfl,rfl,rfl⟩) (ih (i+1) _ _ (by omega) ⟨by omega,by simpa using p2,p3.set _ (lF t),by omega,by omega,?_⟩);rw[FO (by omega),h1,h2,Nat.pow_succ];simp only[Int.natCast_add,Int.natCast_mul,bB];exact g8
  ·have h2:=Z6 (y:=y) (i:=i) (by omega)
   obtain ⟨r1,r2,r3⟩:=hs.Rj (e:=0) bb (by omega);have g8:=lG (d:=d) (e:=0) p6 rfl;rw[Int.mul_zero,Int.add_zero]at g8;have r4 : -9223372030412324865<=f*(d:Int)/\f*(d:Int)<=9223372030412324865:=r1;(repeat' ((first|(apply AG<;>intro hc<;>try omega)|(apply AZ;omega)|(apply N0;omega)|(apply QK;omega)|apply AU|(refine BA (by assumption) ?_ rfl ?_;omega)|apply AE)<;>conv=>whnf))
   generalize Il:f * ↑d+c=t at *;refine jE ?_;(conv=>whnf)
   (repeat' ((first|(apply AY;omega)|fail)<;>conv=>whnf))
   refine E6 (by omega) ?_;(conv=>whnf)
   refine jR ?_;(conv=>whnf)
   (repeat' ((first|(apply AZ;omega)|fail)<;>conv=>whnf))
   refine BS [] (by (conv=>whnf);exact ⟨rfl,rfl,rfl⟩) (ih (i+1) _ _ (by omega) ⟨by omega,by simpa using p2,p3.set _ (lF t),by omega,by omega,?_⟩);rw[FO (by omega),h1,h2,Nat.pow_succ];simp only[Int.natCast_add,Int.natCast_mul,bB];rw[Int.mul_zero,Int.add_zero]at g8;exact g8
 ·obtain rfl:i=x.length:=by omega
  clear ih;rw[C3 (by omega),C3 (Nat.le_refl _),C3 (by omega)]at p6;have Qb:=EY p3;have hxv:=EY hX;rw[p2]at Qb;have hVR:val o=R:=by
   have:=Vy Qb p6 (by omega) (by omega)
   omega
  have mb:=EO p3;rw[<-p2,<-hVR];(repeat' ((first|(apply AG<;>intro hc<;>try omega)|apply AE|refine WK N (by assumption) (by omega) rfl (by first|rfl|omega|assumption) ?_)<;>conv=>whnf))
  refine HD (enc:=AL) (λ_=>rfl) (by omega) ?_;(conv=>whnf)
  refine AX ?_ (by simp only[A2,true_and];exact B5 _);rw[List.drop_zero,V6 p3]
theorem Zq (N:c6 L) (X Y:Nat) (ud:Y<=X) (hy:3<=(dg Y).length) (lx:(dg X).length<=549755813888) : ∃ r,Ev L 81 [.sl false ((dg X).map AL),.sl false ((dg Y).map AL)] r /\ ∃ A B:Nat,(B<Y/\B<=A/\A<=X/\Nat.gcd A B=Nat.gcd X Y)/\r = .e6 [.sl false ((dg A).map AL),.sl false ((dg B).map AL)]:=by
 have hY0:Y≠0:=λ h=>by rw[h,EU]at hy;simp at hy
 have xh:X≠0:=by omega
 have hlen:=PX ud;have hdv:=λ q q'=>cO N X Y q q' hY0 lx (by omega)
 have d1:=DU X;have d2:=DU Y;have v1:=BT X;have v2:=BT Y;obtain ⟨xt,Nb,Nc⟩:=bP xh;have He:=d1.at Nb;obtain ⟨b1,b2,b3,b4⟩:=eI Nc He;have Fy:=nS N xt He;generalize hs:32-m6 xt=s at *;have cg:s<=31:=by omega
 obtain ⟨n1,n2⟩:=dZ d1 Nb (by omega) cg b3 b4;have jd:=λ(f g:Int) (R:Nat) (hs:PM f g) (h1:(R:Int)=f*val (dg X)+g*val (dg Y)) (h2:R<=val (dg X)) (q q':Bool)=>Zn N (dg X) (dg Y) q q' f g d1 d2 (by omega) lx hs R h1 h2
 have n3:val (dg Y)*2^s<4294967296^(dg X).length:=Nat.lt_of_le_of_lt (zR _ (by omega)) n1;have mb:=λ q=>oF N (dg X) q (dg X).length s d1 (by omega) (by omega) lx cg n1
 have fr:=λ q=>oF N (dg Y) q (dg X).length s d2 (by omega) (by omega) lx cg n3
 have hK:=Afl (dg X).length s;obtain ⟨e1,x1,x2,x3⟩:=qT (V:=X) hK;obtain ⟨e2,y1,y2,y3⟩:=qT (V:=Y) hK;rw[v1]at mb;rw[v2]at fr;have xx:=qS d1 (n:=(dg X).length) (by omega) (by omega) cg n1;have wk:=qS d2 (n:=(dg X).length) (by omega) (by omega) cg n3;rw[v1]at xx;rw[v2]at wk;generalize S6 (dg X).length s=K at *;generalize X/K=P at *;generalize Y/K=Q at *;rw[v1,v2]at jd;obtain ⟨rc,Dq,a,b,c,d,⟨z1,z2,z3,z4,z5⟩,z6,rfl⟩:=Zm N (P:Int) (Q:Int) (by omega) (by omega);have e1:(((dg X).length:Int)-1).toNat=(dg X).length-1:=by omega
 rw[<-e1]at Nb;refine Ev.xE N.LW rfl rfl ?_;by_cases hb:b=0
 ·(repeat' ((first|(apply AG<;>intro hc<;>try omega)|(apply B1;omega)|(apply CF;omega)|apply AU|(refine BA (by assumption) ?_ rfl ?_;omega)|apply AE|refine AD (Fy) ?_|refine AD (mb _) ?_|refine AD (fr _) ?_|refine AD (Dq) ?_|refine AD (hdv _ _) ?_)<;>conv=>whnf))
  refine ⟨_,?_,Y,X%Y,⟨Nat.mod_lt _ (by omega),Nat.le_of_lt (Nat.mod_lt _ (by omega)),ud,U6 X Y⟩,rfl⟩;(conv=>whnf)
  exact AX rfl (UM _ _)
 ·obtain ⟨g1,g2,g3,g4⟩:=z6 hb (X:Int) (Y:Int) (K:Int) _ _ (by omega) x1 y1 x2 x3 y2 y3
  obtain ⟨A,hA⟩:=Int.eq_ofNat_of_zero_le (show 0<=a*X+b*Y by omega);obtain ⟨B,hB⟩:=Int.eq_ofNat_of_zero_le g1;have s1:PM a b:=by rcases z1 with ⟨h1,h2,h3,h4⟩|⟨h1,h2,h3,h4⟩<;>unfold PM<;>omega
  have s2:PM c d:=by rcases z1 with ⟨h1,h2,h3,h4⟩|⟨h1,h2,h3,h4⟩<;>unfold PM<;>omega
  (repeat' ((first|(apply AG<;>intro hc<;>try omega)|(apply B1;omega)|(apply CF;omega)|apply AU|(refine BA (by assumption) ?_ rfl ?_;omega)|apply AE|refine AD (Fy) ?_|refine AD (mb _) ?_|refine AD (fr _) ?_|refine AD (Dq) ?_|refine AD (jd a b A s1 hA.symm (by omega) _ _) ?_|refine AD (jd c d B s2 hB.symm (by omega) _ _) ?_)<;>conv=>whnf))
  rw[hA,hB]at g4;rw[hA,hB]at g2;refine ⟨_,?_,A,B,⟨by omega,by omega,by omega,by simpa using g4⟩,rfl⟩;(conv=>whnf)
  exact AX rfl (UM _ _)
theorem pO (N:c6 L) (X Y:Nat) (ud:Y<=X) (lx:(dg X).length<=549755813888) :
 AA L [It.lp GG.l1,It.c7 0,
   It.code
    ((((BH.ops GG.r6 false).dr [23,30,31] []).seq
       (BH.cond 32 (((BH.ops GG.r7 false).dr [5,6,32,33] []).seq BH.ret) BH.skip)).seq
     (((BH.ops GG.r8 false).dr [5,7,32,34,35,36,37,38,39] []).seq
      (((BH.ops GG.r9 false).dr [6,8,40,41,42,43] []).seq
       ((BH.block 2 GG.l2.loop).seq
        (((BH.ops GG.q9 false).dr [9,10,45,50,51,52,53,54,55,56] []).seq BH.ret)))))]
  [(6,AV.sl false (List.map AL (dg Y))),(5,AV.sl false (List.map AL (dg X)))] []
  (PQ GG (AV.sl false (List.map AL (dg (X.gcd Y))))):=by
 refine JS (λ_ y=>y) (λ(x y:Nat)=>y<=x/\(dg x).length<=549755813888/\Nat.gcd x y=Nat.gcd X Y) (λ x y=>[(6,AV.sl false (List.map AL (dg y))),(5,AV.sl false (List.map AL (dg x)))]) (λ_ _=>[]) X Y ⟨ud,lx,rfl⟩ ?_;intro x y ⟨p1,p2,p3⟩ ih;rw[<-p3]at ih ⊢;generalize Nat.gcd X Y=G at *;clear ud lx;subst p3;have hlen:=PX p1;by_cases h3:3<=(dg y).length
 ·obtain ⟨r,hr,A,B,⟨k1,k2,k3,k4⟩,rfl⟩:=Zq N x y p1 h3 p2
  have k5:=PX k3;(repeat' ((first|(apply AG<;>intro hc<;>try omega)|apply AU|apply AE|refine AD (hr) ?_)<;>conv=>whnf))
  exact BM [] (ih A B k1 ⟨k2,by omega,k4⟩)
 ·clear ih
  by_cases h0:y=0
  ·subst h0
   have gk:(dg 0).length=0:=by rw[EU];rfl
   (repeat' ((first|(apply AG<;>intro hc<;>try omega)|apply AU|apply AE)<;>conv=>whnf))
   rw[Nat.gcd_zero_right];exact AX rfl (by simp only[A2,true_and];exact B5 _)
  ·have hp:=UQ h0
   have hm:=PX (Nat.le_of_lt (Nat.mod_lt x (show y>0 by omega)));have hd:=λ q q'=>cO N x y q q' h0 p2 (by omega)
   have mf:=λ q=>oG N y q (by omega)
   have ve:=λ q=>oG N (x%y) q (by omega)
   have hb:y<18446744073709551616:=N9.1 (show (dg y).length<=2 by omega);have bm:x%y<y:=Nat.mod_lt _ (by omega);rw[<-U6 x y];(repeat' ((first|(apply AG<;>intro hc<;>try omega)|apply AU|apply AE|refine AD (hd _ _) ?_|refine AD (mf _) ?_|refine AD (ve _) ?_)<;>conv=>whnf))
   refine WE (λ_ q=>q) (λ(p q:Nat)=>p<18446744073709551616/\q<18446744073709551616/\Nat.gcd p q=Nat.gcd y (x%y)) (λ p q=>[(9,.int .u64 (p:Int)),(10,.int .u64 (q:Int))]) (λ_ _=>[]) [] [] y (x%y) (by (conv=>whnf);exact ⟨rfl,rfl,rfl⟩) ⟨hb,by omega,rfl⟩ ?_;intro p q ⟨g1,g2,g3⟩ ih;rw[<-g3]at ih ⊢;by_cases hq:q=0
   ·subst hq
    clear ih;obtain ⟨v1,v2⟩:=bJ g1;rw[Nat.gcd_zero_right];have mb:=EO v2;have ht:=V6 v2;rw[v1]at mb ht;(repeat' ((first|(apply AG<;>intro hc<;>try omega)|apply FA|(apply EA;omega)|apply FI|apply AE)<;>conv=>whnf))
    generalize p%4294967296=lo at *;generalize p/4294967296=hi at *;refine WK N v2 (by simp) rfl rfl ?_;rw[v1];(conv=>whnf)
    skip
    refine HD (enc:=AL) (l:=[lo,hi]) (λ_=>rfl) (by omega) ?_;(conv=>whnf)
    refine AX ?_ (by simp only[A2,true_and];exact B5 _);rw[List.drop_zero,ht]
   ·have hpq:p%q<q:=Nat.mod_lt _ (by omega)
    (repeat' ((first|(apply AG<;>intro hc<;>try omega)|(apply T6;omega)|apply AE)<;>conv=>whnf))
    exact BM [] (ih q (p%q) hpq ⟨g2,by omega,U6 p q⟩)
theorem Adz (N:c6 L) (a b:List Nat) (q1 q2:Bool) (hA:A0 a) (hB:A0 b) (la:a.length<=549755813888) (lb:b.length<=549755813888) :
  Ev L 82 [.sl q1 (a.map AL),.sl q2 (b.map AL)] (.sl false ((dg (Nat.gcd (val a) (val b))).map AL)):=by
 have t1:=λ q=>UT N a q hA (by omega)
 have t2:=λ q=>UT N b q hB (by omega)
 have l1:=EO hA;have l2:=EO hB;have k7:=λ q q'=>O0 N (dg (val a)) (dg (val b)) q q' (DU _) (DU _) (by omega) (by omega)
 rw[BT,BT]at k7;generalize val a=X at *;generalize val b=Y at *;refine Ev.x N.GG rfl rfl ?_;by_cases g9:X<Y
 ·have hn:C2 X Y = -1:=(HR (by omega)).symm
  rw[hn]at k7;(repeat' ((first|(apply AG<;>intro hc<;>try omega)|apply AE|refine AD (t1 _) ?_|refine AD (t2 _) ?_|refine AD (k7 _ _) ?_)<;>conv=>whnf))
  rw[Nat.gcd_comm];exact BS [] (by (conv=>whnf);exact ⟨rfl,rfl,rfl⟩) (pO N Y X (by omega) (by omega))
 ·have lv:0<=C2 X Y:=by unfold C2;split<;>(try split)<;>omega
  generalize C2 X Y=cm at *;(repeat' ((first|(apply AG<;>intro hc<;>try omega)|apply AE|refine AD (t1 _) ?_|refine AD (t2 _) ?_|refine AD (k7 _ _) ?_)<;>conv=>whnf))
  exact BS [] (by (conv=>whnf);exact ⟨rfl,rfl,rfl⟩) (pO N X Y (by omega) (by omega))
end Go.b8

namespace Go.b8
open F
attribute [local irreducible] AA AF AQ AC CI AW A5 A9 B4 B3 CE DE BX A3 BW CD AB A4 AJ pw BV BN CS CR C1 CY CT BL DD
variable {L:Lib}
set_option maxHeartbeats 4000000
theorem yY {k:Nat} {K:Int->Prop} (h:0<k/\k<=9223372036854775808) (hk:K ((18446744073709551616-k:Nat):Int)):A1 .u64 (-(k:Int)) K:=by
 refine ⟨?_⟩;have e:IntKind.u64.wrap (-(k:Int))=((18446744073709551616-k:Nat):Int):=by
  simp [IntKind.wrap,IntKind.bits,IntKind.signed];omega
 rw[e];exact hk
theorem CI.Hi {k:Nat} {K:AV->Prop} (h:0<k/\k<=9223372036854775808) (hk:K (.int .u64 (k:Int))):CI .neg .u64 ((18446744073709551616-k:Nat):Int) K:=by
 refine CI.go (v := .int .u64 (IntKind.u64.wrap (0-((18446744073709551616-k:Nat):Int)))) rfl ?_;have e:IntKind.u64.wrap (0-((18446744073709551616-k:Nat):Int))=(k:Int):=by
  simp [IntKind.wrap,IntKind.bits,IntKind.signed];omega
 rw[e];exact hk
theorem Adm (N:a4 L) (z:Int) (hz : -9223372036854775808<=z/\z<=9223372036854775807):Ev L 85 [.int .i64 z] (.agg (eZ z)):=by
 have two : ∀ k:Nat,k<18446744073709551616 -> ∀ q,Ev L 66 [.sl q [[.int .u32 ((k%4294967296:Nat):Int)],[.int .u32 ((k/4294967296:Nat):Int)]]] (.sl false ((dg k).map AL)):=λ k hk q=>by
  have:=UT N.toc6 [k%4294967296,k/4294967296] q (bJ hk).2 (by simp)
  rw[xA hk]at this;exact this
 refine Ev.x N.KY rfl rfl ?_;by_cases h0:0<=z
 ·obtain ⟨k,rfl⟩:=Int.eq_ofNat_of_zero_le h0
  have hT:=two k (by omega);have z1:=HS k;(repeat' ((first|(apply AG<;>intro hc<;>try omega)|apply FA|(apply CF;omega)|(apply EA;omega)|apply FI|refine PR rfl rfl ?_|apply AE)<;>conv=>whnf))
  generalize k%4294967296=lo at *;generalize k/4294967296=hi at *;(repeat' (refine AD (hT _) ?_<;>conv=>whnf))
  refine FC 1000 N.DB rfl rfl ?_;(repeat' (apply AE<;>conv=>whnf))
  all_goals (refine ⟨rfl,?_⟩;(conv=>whnf);skip)
  exact AX (EL (by omega) (F6 (by omega))) (DK _)
 ·obtain ⟨k,hk⟩:=Int.eq_ofNat_of_zero_le (show 0 <= -z by omega)
  obtain rfl:z = -(k:Int):=by omega
  have hT:=two k (by omega);have z1:=HS k;(repeat' (apply AE<;>conv=>whnf))
  refine yY (by omega) ?_;(conv=>whnf)
  (repeat' ((first|(apply AG<;>intro hc<;>try omega)|fail)<;>conv=>whnf))
  refine CI.Hi (by omega) ?_;(conv=>whnf)
  (repeat' ((first|(apply AG<;>intro hc<;>try omega)|apply FA|(apply EA;omega)|apply FI|refine PR rfl rfl ?_)<;>conv=>whnf))
  generalize k%4294967296=lo at *;generalize k/4294967296=hi at *;(repeat' (refine AD (hT _) ?_<;>conv=>whnf))
  refine FC 1000 N.DB rfl rfl ?_;(repeat' ((first|(apply AG<;>intro hc<;>try omega)|apply AU|apply AE)<;>conv=>whnf))
  all_goals (refine ⟨rfl,?_⟩;(conv=>whnf);skip)
  exact AX (EL (by omega) (NQ (by omega))) (DK _)
theorem nZ (N:a4 L) (n q:Bool) (m:List Nat) (hm:Sm 549755813888 m):Ev L 84 [.agg (rZ q n m)] (.agg (eZ (zv n m))):=by
 have hT:=λ q=>UT N.toc6 m q hm.1 (by have:=hm.2;omega)
 have hz:=HS (val m);have ha:=EM n m;refine Ev.x N.K1 rfl rfl ?_;cases n
 ·rw[D9]at *
  (repeat' ((first|apply AE|refine AD (hT _) ?_)<;>conv=>whnf))
  refine FC 1000 N.DB rfl rfl ?_;(repeat' (apply AE<;>conv=>whnf))
  all_goals (refine ⟨rfl,?_⟩;(conv=>whnf);skip)
  exact AX (EL ha.symm (F6 (by omega))) (DK _)
 ·rw[NY]at *
  (repeat' ((first|apply AE|refine AD (hT _) ?_)<;>conv=>whnf))
  refine FC 1000 N.DB rfl rfl ?_;(repeat' ((first|(apply AG<;>intro hc<;>try omega)|apply AU|apply AE)<;>conv=>whnf))
  all_goals (refine ⟨rfl,?_⟩;(conv=>whnf);skip)
  ·exact AX (EL ha.symm (NQ (by omega))) (DK _)
  ·exact AX (EL ha.symm (F6 (by omega))) (DK _)
theorem UU (N:a4 L) (n q:Bool) (m:List Nat) (hm:Sm 549755813888 m):Ev L 86 [.agg (rZ q n m)] (.int .i64 (n6 (zv n m))):=by
 have k7:=λ q q'=>O0 N.toc6 m [] q q' hm.1 SR (by have:=hm.2;omega) (by simp)
 rw[IB]at k7;refine Ev.x N.KZ rfl rfl ?_;by_cases h0:val m=0
 ·have hn:C2 (val m) (0:Nat)=0:=(QY (by omega)).symm
  rw[hn]at k7;(repeat' ((first|(apply AG<;>intro hc<;>try omega)|apply AE|refine AD (k7 _ _) ?_)<;>conv=>whnf))
  exact C6 (VX (by have:=EM n m;omega))
 ·have hn:C2 (val m) (0:Nat)=1:=(N7 (by omega)).symm
  rw[hn]at k7;cases n
  ·(repeat' ((first|(apply AG<;>intro hc<;>try omega)|apply AE|refine AD (k7 _ _) ?_)<;>conv=>whnf))
   exact C6 (gQ (by rw[D9];omega))
  ·(repeat' ((first|(apply AG<;>intro hc<;>try omega)|apply AE|refine AD (k7 _ _) ?_)<;>conv=>whnf))
   exact C6 (gP (by rw[NY];omega))
theorem nX (N:a4 L) (n1 n2 q1 q2:Bool) (a b:List Nat) (ha:Sm 549755813888 a) (hb:Sm 549755813888 b):Ev L 87 [.agg (rZ q1 n1 a),.agg (rZ q2 n2 b)] (.agg (eZ (zv n1 a+zv n2 b))):=by
 have la:=ha.2;have lb:=hb.2;have h1:=λ q q'=>Ady N.toc6 a b q q' ha.1 hb.1 (by omega) (by omega)
 have h2:=λ q q'=>oE N.toc6 a b q q' ha.1 hb.1 (by omega) (by omega)
 have h3:=λ q q'=>oE N.toc6 b a q q' hb.1 ha.1 (by omega) (by omega)
 have k7:=λ q q'=>O0 N.toc6 a b q q' ha.1 hb.1 (by omega) (by omega)
 have z1:=HS (val a+val b);have z2:=HS (val a-val b);have z3:=HS (val b-val a);refine Ev.x N.KU rfl rfl ?_;by_cases g9:val a<val b
 ·have hn:C2 (val a) (val b) = -1:=(HR (by omega)).symm
  rw[hn]at k7;cases n1<;>cases n2<;>simp only[D9,NY]
  ·(repeat' ((first|apply AE|refine AD (h1 _ _) ?_)<;>conv=>whnf))
   refine FC 1000 N.DB rfl rfl ?_;(repeat' (apply AE<;>conv=>whnf))
   all_goals (refine ⟨rfl,?_⟩;(conv=>whnf);skip)
   exact AX (EL (by omega) (F6 (by omega))) (DK _)
  ·(repeat' ((first|(apply AG<;>intro hc<;>try omega)|apply AE|refine AD (h3 _ _) ?_|refine AD (k7 _ _) ?_)<;>conv=>whnf))
   refine FC 1000 N.DB rfl rfl ?_;(repeat' ((first|(apply AG<;>intro hc<;>try omega)|apply AU|apply AE)<;>conv=>whnf))
   all_goals (refine ⟨rfl,?_⟩;(conv=>whnf);skip)
   ·exact AX (EL (by omega) (NQ (by omega))) (DK _)
  ·(repeat' ((first|(apply AG<;>intro hc<;>try omega)|apply AE|refine AD (h3 _ _) ?_|refine AD (k7 _ _) ?_)<;>conv=>whnf))
   refine FC 1000 N.DB rfl rfl ?_;(repeat' (apply AE<;>conv=>whnf))
   all_goals (refine ⟨rfl,?_⟩;(conv=>whnf);skip)
   ·exact AX (EL (by omega) (F6 (by omega))) (DK _)
  ·(repeat' ((first|apply AE|refine AD (h1 _ _) ?_)<;>conv=>whnf))
   refine FC 1000 N.DB rfl rfl ?_;(repeat' ((first|(apply AG<;>intro hc<;>try omega)|apply AU|apply AE)<;>conv=>whnf))
   all_goals (refine ⟨rfl,?_⟩;(conv=>whnf);skip)
   ·exact AX (EL (by omega) (NQ (by omega))) (DK _)
 ·have hn:C2 (val a) (val b) ≠ -1:=by unfold C2;split<;>(try split)<;>omega
  generalize C2 (val a) (val b)=cm at *;cases n1<;>cases n2<;>simp only[D9,NY]
  ·(repeat' ((first|apply AE|refine AD (h1 _ _) ?_)<;>conv=>whnf))
   refine FC 1000 N.DB rfl rfl ?_;(repeat' (apply AE<;>conv=>whnf))
   all_goals (refine ⟨rfl,?_⟩;(conv=>whnf);skip)
   exact AX (EL (by omega) (F6 (by omega))) (DK _)
  ·(repeat' ((first|(apply AG<;>intro hc<;>try omega)|apply AE|refine AD (h2 _ _) ?_|refine AD (k7 _ _) ?_)<;>conv=>whnf))
   refine FC 1000 N.DB rfl rfl ?_;(repeat' (apply AE<;>conv=>whnf))
   all_goals (refine ⟨rfl,?_⟩;(conv=>whnf);skip)
   exact AX (EL (by omega) (F6 (by omega))) (DK _)
  ·(repeat' ((first|(apply AG<;>intro hc<;>try omega)|apply AE|refine AD (h2 _ _) ?_|refine AD (k7 _ _) ?_)<;>conv=>whnf))
   refine FC 1000 N.DB rfl rfl ?_;(repeat' ((first|(apply AG<;>intro hc<;>try omega)|apply AU|apply AE)<;>conv=>whnf))
   all_goals (refine ⟨rfl,?_⟩;(conv=>whnf);skip)
   ·exact AX (EL (by omega) (NQ (by omega))) (DK _)
   ·exact AX (EL (by omega) (F6 (by omega))) (DK _)
  ·(repeat' ((first|apply AE|refine AD (h1 _ _) ?_)<;>conv=>whnf))
   refine FC 1000 N.DB rfl rfl ?_;(repeat' ((first|(apply AG<;>intro hc<;>try omega)|apply AU|apply AE)<;>conv=>whnf))
   all_goals (refine ⟨rfl,?_⟩;(conv=>whnf);skip)
   ·exact AX (EL (by omega) (NQ (by omega))) (DK _)
   ·exact AX (EL (by omega) (F6 (by omega))) (DK _)
theorem Q7 (N:a4 L) (n1 n2 q1 q2:Bool) (a b:List Nat) (ha:A0 a) (hb:A0 b) (hl:a.length+b.length<=1099511627776):Ev L 88 [.agg (rZ q1 n1 a),.agg (rZ q2 n2 b)] (.agg (eZ (zv n1 a*zv n2 b))):=by
 have h1:=λ q q'=>cN N.toc6 a b q q' ha hb hl
 have z1:=HS (val a*val b);have Kk:(zv n1 a*zv n2 b).natAbs=val a*val b:=by rw[Int.natAbs_mul,EM,EM]
 refine Ev.x N.KX rfl rfl ?_;have e:zv n1 a*zv n2 b=bif n1 == n2 then ((val a*val b:Nat):Int) else -((val a*val b:Nat):Int):=by
  cases n1<;>cases n2<;>simp [D9,NY,Int.mul_neg,Int.neg_mul]
 rw[e]at Kk ⊢;generalize val a*val b=V at *;cases n1<;>cases n2<;>simp only[beq_self_eq_true,cond_true,show (false == true)=false from rfl,show (true == false)=false from rfl,cond_false]
 ·(repeat' ((first|apply AE|refine AD (h1 _ _) ?_)<;>conv=>whnf))
  refine FC 1000 N.DB rfl rfl ?_;(repeat' (apply AE<;>conv=>whnf))
  all_goals (refine ⟨rfl,?_⟩;(conv=>whnf);skip)
  exact AX (EL (by omega) (F6 (by omega))) (DK _)
 ·(repeat' ((first|apply AE|refine AD (h1 _ _) ?_)<;>conv=>whnf))
  refine FC 1000 N.DB rfl rfl ?_;(repeat' ((first|(apply AG<;>intro hc<;>try omega)|apply AU|apply AE)<;>conv=>whnf))
  all_goals (refine ⟨rfl,?_⟩;(conv=>whnf);skip)
  ·exact AX (EL (by omega) (NQ (by omega))) (DK _)
  ·exact AX (EL (by omega) (F6 (by omega))) (DK _)
 ·(repeat' ((first|apply AE|refine AD (h1 _ _) ?_)<;>conv=>whnf))
  refine FC 1000 N.DB rfl rfl ?_;(repeat' ((first|(apply AG<;>intro hc<;>try omega)|apply AU|apply AE)<;>conv=>whnf))
  all_goals (refine ⟨rfl,?_⟩;(conv=>whnf);skip)
  ·exact AX (EL (by omega) (NQ (by omega))) (DK _)
  ·exact AX (EL (by omega) (F6 (by omega))) (DK _)
 ·(repeat' ((first|apply AE|refine AD (h1 _ _) ?_)<;>conv=>whnf))
  refine FC 1000 N.DB rfl rfl ?_;(repeat' (apply AE<;>conv=>whnf))
  all_goals (refine ⟨rfl,?_⟩;(conv=>whnf);skip)
  exact AX (EL (by omega) (F6 (by omega))) (DK _)
theorem bN:dg 1=[1]:=by rw[IE (by omega)];simp [EU]
theorem Adp (N:a4 L) (V:Nat) (q:Bool):Ev L 90 [.sl q ((dg V).map AL)] (.bool (decide (V=1))):=by
 have hv:=BT V;have hD:=DU V;have h1:V=1->dg V=[1]:=λ h=>by rw[h,bN]
 generalize dg V=l at *;refine Ev.x N.MD rfl rfl ?_;by_cases hl:l.length=1
 ·obtain ⟨d,rfl⟩:=List.length_eq_one_iff.1 hl
  have e:V=d:=by rw[<-hv];simp [val]
  subst e;have hd:[V][(0:Int).toNat]? = some V:=rfl;(repeat' ((first|(apply AG<;>intro hc<;>try omega)|apply AU|(refine BA (by assumption) ?_ rfl ?_;omega)|apply AE)<;>conv=>whnf))
  ·exact yZ (by omega)
  ·exact jI (by omega)
 ·(repeat' ((first|(apply AG<;>intro hc<;>try omega)|apply AU|apply AE)<;>conv=>whnf))
  exact jI (λ h=>by rw[h1 h]at hl;simp at hl)
theorem UV (N:a4 L) (n q1 q2:Bool) (m d:List Nat) (hm:Sm 549755813888 m) (hd:Sm 549755813888 d) (h0:val d≠0):Ev L 94 [.agg (rQ q1 q2 n m d)] (.agg (eQ (qv n m d))):=by
 have Cz:=λ q q'=>cM N.toc6 m d q q' hm.1 hd.1 hm.2 hd.2 h0
 have Is:=EM n m;have sq:Sm 549755813888 (dg (val m/val d)):=hm.low (Nat.div_le_self _ _);have sr:Sm 549755813888 (dg (val m%val d)):=hd.low (Nat.le_of_lt (Nat.mod_lt _ (by omega)));have hT:=λ q=>nZ N n q _ sq
 have hG:=λ q q'=>Adz N.toc6 d (dg (val m%val d)) q q' hd.1 sr.1 hd.2 sr.2
 rw[BT,show Nat.gcd (val d) (val m%val d)=Nat.gcd (val d) (zv n m).natAbs by rw[Is,U6,Nat.gcd_comm]]at hG;have Lf:=pP (zv n m).natAbs h0;have Dh:=Nat.gcd_le_left (zv n m).natAbs (show 0<val d by omega);have hz:=HS (val m%val d);obtain ⟨e1,e2,e3⟩:=eT (z:=zv n m) h0;unfold qv;generalize hGG:Nat.gcd (val d) (zv n m).natAbs=g at *;have h1:=λ q=>Adp N g q
 refine Ev.x N.MF rfl rfl ?_;by_cases u4:val m%val d=0
 ·(repeat' ((first|(apply AG<;>intro hc<;>try omega)|apply AU|apply AE|refine AD (Cz _ _) ?_|refine AD (hT _) ?_)<;>conv=>whnf))
  refine FC 1000 N.G6 rfl rfl ?_;(repeat' (apply AE<;>conv=>whnf))
  refine ⟨rfl,?_⟩;(conv=>whnf)
  (repeat' (refine HM rfl ?_<;>conv=>whnf))
  have lv:g=val d:=by
   rw[<-hGG,Is];exact Nat.gcd_eq_left (Nat.dvd_of_mod_eq_zero u4)
  have hv:=BT (val m/val d);refine AX ?_ ?_
  ·show _=AV.agg (rQ _ _ _ _ _)
   rw[e1,e2,e3,Is,lv,Nat.div_self (by omega),EM,hv,bN];have hs:decide (zv n (dg (val m/val d))<0)=decide (zv n m<0):=by
    cases n
    ·rw[D9,D9];simp;omega
    ·rw[NY,NY,hv]
     congr 1;rw[eq_iff_iff];have h5:=Nat.div_add_mod (val m) (val d);rw[u4,Nat.add_zero]at h5;constructor
     ·intro h6
      have h7:val m/val d≠0:=by omega
      have:val m≠0:=λ h8=>h7 (by rw[h8,Nat.zero_div])
      omega
     ·intro h6
      have h7:val m/val d≠0:=λ h8=>by rw[h8,Nat.mul_zero]at h5;omega
      omega
   rw[hs];rfl
  ·exact DJ _
 ·by_cases Bu:g=1
  ·have Kc:=λ q=>nZ N n q m hm
   have Ho:=λ q=>UT N.toc6 d q hd.1 (by have:=hd.2;omega)
   (repeat' ((first|(apply AG<;>intro hc<;>try omega)|apply AU|apply AE|refine AD (Cz _ _) ?_|refine AD (hG _ _) ?_|refine jC (h1 _) (λ hf => ?_) (λ hf => ?_)|refine AD (Kc _) ?_|refine AD (Ho _) ?_)<;>conv=>whnf))
   ·refine AX ?_ (XH _ _ _)
    show _=AV.agg (rQ _ _ _ _ _);rw[e1,e2,e3,Bu,Nat.div_one,Nat.div_one]
   ·exact absurd Bu hf
  ·have sg:Sm 549755813888 (dg g):=hd.low Dh
   have El:=λ q q'=>cM N.toc6 m (dg g) q q' hm.1 sg.1 hm.2 sg.2 (by rw[BT];omega)
   have As:=λ q q'=>cM N.toc6 d (dg g) q q' hd.1 sg.1 hd.2 sg.2 (by rw[BT];omega)
   rw[BT]at El As;(repeat' ((first|(apply AG<;>intro hc<;>try omega)|apply AU|apply AE|refine AD (Cz _ _) ?_|refine AD (hG _ _) ?_|refine jC (h1 _) (λ hf => ?_) (λ hf => ?_)|refine AD (El _ _) ?_|refine AD (As _ _) ?_)<;>conv=>whnf))
   ·exact absurd hf Bu
   ·refine AX ?_ (XH _ _ _)
    show _=AV.agg (rQ _ _ _ _ _);rw[e1,e2,e3,Is];have hs:n=decide (zv n m<0):=by
     have:val m≠0:=λ h=>u4 (by rw[h,Nat.zero_mod])
     cases n
     ·exact F6 (by rw[D9];omega)
     ·exact NQ (by rw[NY];omega)
    rw[<-hs]
theorem SW (N:a4 L) (m:List Nat):Ev L 91 [.sl false (m.map AL)] (.agg [.bool false,.sl false (m.map AL)]):=by
 refine Ev.x N.ME rfl rfl ?_;(repeat' (apply AE<;>conv=>whnf))
 exact AX rfl (Sb _ _)
def zY (n:Bool) (m d:List Nat) (n':Bool) (m' d':List Nat) (w:Bool) (k:Nat):Prop:=Sm k m'/\Sm k d'/\val d'≠0/\(w=true->val d'=1)/\qv n m d=mkRat (zv n' m') (val d')
theorem JX (N:a4 L) (n:Bool) (m d:List Nat) (k:Nat) (hk:1<=k/\k<=549755813888) (hm:Sm k m) (hd:Sm k d) : ∃ n' m' d' w,Ev L 89 [.agg (rQ false false n m d)] (.agg [.bool n',.sl false (m'.map AL),.sl false (d'.map AL),.bool w])/\zY n m d n' m' d' w k:=by
 have k7:=λ q q'=>O0 N.toc6 d [] q q' hd.1 SR (by have:=hd.2;omega) (by simp)
 rw[IB]at k7;by_cases h1:d=[1]
 ·subst h1
  refine ⟨n,m,[1],true,?_,hm,hd,by decide,λ_=>rfl,rfl⟩;refine Ev.x N.H1 rfl rfl ?_;have hd:[1][(0:Int).toNat]? = some 1:=rfl;have rz:([1]:List Nat).length=1:=rfl;(repeat' ((first|(apply AG<;>intro hc<;>try omega)|apply AU|(refine BA (by assumption) ?_ rfl ?_;omega)|apply AE)<;>conv=>whnf))
  exact AX rfl (UJ _ _ _ _)
 have k8 : ∀ x,d[(0:Int).toNat]? = some x->(d.length:Int)=1->(x:Int)≠1:=λ x hx hl h=>by
  obtain ⟨y,rfl⟩:=List.length_eq_one_iff.1 (show d.length=1 by omega);simp at hx;apply h1;congr 1;omega
 by_cases h0:val d=0
 ·refine ⟨false,[],[1],true,?_,QE _,gT hk.1 (by omega),by decide,λ_=>rfl,by unfold qv;rw[h0,Rat.mkRat_zero,xH,Rat.zero_mkRat]⟩
  have hn:C2 (val d) (0:Nat)=0:=(QY (by omega)).symm;rw[hn]at k7;refine Ev.x N.H1 rfl rfl ?_;have hD:=hd.1;(repeat' ((first|(apply AG<;>intro hc<;>try omega)|apply AU|(refine PP (by assumption) ?_ (λ e he hb => ?_);omega)|refine HM rfl ?_|apply AE|refine AD (k7 _ _) ?_)<;>conv=>whnf))
  all_goals first
   | exact AX rfl (UJ _ _ _ _)
   | exact AX rfl (UJ false true [] [1])
   | exact absurd (by assumption) (k8 _ he (by assumption))
 ·refine ⟨n,m,d,false,?_,hm,hd,h0,(λ h=>by cases h),rfl⟩
  have hn:C2 (val d) (0:Nat)=1:=(N7 (by omega)).symm;rw[hn]at k7;have hD:=hd.1;refine Ev.x N.H1 rfl rfl ?_;(repeat' ((first|(apply AG<;>intro hc<;>try omega)|apply AU|(refine PP (by assumption) ?_ (λ e he hb => ?_);omega)|apply AE|refine AD (k7 _ _) ?_)<;>conv=>whnf))
  all_goals first
   | exact AX rfl (UJ _ _ _ _)
   | exact AX rfl (UJ false true [] [1])
   | exact absurd (by assumption) (k8 _ he (by assumption))
theorem YB (N:a4 L) (n q1 q2:Bool) (m d:List Nat) (hm:Sm 549755813888 m) (hd:Sm 549755813888 d):Ev L 95 [.agg (rQ q1 q2 n m d)] (.agg (eQ (qv n m d))):=by
 obtain ⟨n',m',d',w,hr,s1,s2,s3,s4,s5⟩:=JX N n m d 549755813888 (by omega) hm hd;have hl:=λ q1 q2=>UV N n' q1 q2 m' d' s1 s2 s3
 rw[s5];unfold qv at hl;refine Ev.x N.MB rfl rfl ?_;(repeat' ((first|apply F9|apply AE|refine AD (hr) ?_|refine AD (hl _ _) ?_)<;>conv=>whnf))
 exact AX rfl (DJ _)
theorem oT (N:a4 L) (n q1 q2:Bool) (m d:List Nat) (hm:Sm 549755813888 m) (hd:Sm 549755813888 d):Ev L 97 [.agg (rQ q1 q2 n m d)] (.int .i64 (n6 (qv n m d).num)):=by
 obtain ⟨n',m',d',w,hr,s1,s2,s3,s4,s5⟩:=JX N n m d 549755813888 (by omega) hm hd;have hl:=λ q=>UU N n' q m' s1
 rw[s5,eU s3];refine Ev.x N.MA rfl rfl ?_;(repeat' ((first|apply F9|apply AE|refine AD (hr) ?_|refine AD (hl _) ?_)<;>conv=>whnf))
 exact C6 rfl
theorem aO (z:Int):AV.agg [.bool (decide (z<0)),.sl false ((dg z.natAbs).map AL),.sl false [[.int .u32 1]]] = .agg (eQ (z:Rat)):=by
 show _=AV.agg (rQ _ _ _ _ _);rw[Rat.num_intCast,Rat.den_intCast,bN];rfl
theorem O2 (N:a4 L) (z:Int) (hz : -9223372036854775808<=z/\z<=9223372036854775807):Ev L 96 [.int .i64 z] (.agg (eQ (z:Rat))):=by
 have h1:=Adm N z hz;refine Ev.x N.L9 rfl rfl ?_;(repeat' ((first|apply AE|refine AD (h1) ?_)<;>conv=>whnf))
 refine FC 1000 N.G6 rfl rfl ?_;(repeat' (apply AE<;>conv=>whnf))
 refine ⟨rfl,?_⟩;(conv=>whnf)
 (repeat' (refine HM rfl ?_<;>conv=>whnf))
 exact AX (aO z) (DJ _)
theorem RW {k l:Nat} {n1 n2:Bool} {a b:List Nat} (ha:Sm k a) (hb:Sm l b):Sm (k+l) (dg (zv n1 a*zv n2 b).natAbs):=ha.mul hb (by rw[Int.natAbs_mul,EM,EM])
theorem uY {k:Nat} {x y:Int} (ha:Sm k (dg x.natAbs)) (hb:Sm k (dg y.natAbs)):Sm (k+1) (dg (x+y).natAbs):=ha.add hb (by rw[BT,BT];omega)
theorem cW (N:a4 L) (k:Nat) (hk:1<=k/\k<=68719476736) (n1 n2 q1 q2 q3 q4:Bool) (m1 d1 m2 d2:List Nat) (gq:Sm k m1) (jv:Sm k d1) (dv:Sm k m2) (jx:Sm k d2) :
  Ev L 98 [.agg (rQ q1 q2 n1 m1 d1),.agg (rQ q3 q4 n2 m2 d2)] (.agg (eQ (qv n1 m1 d1+qv n2 m2 d2))):=by
 obtain ⟨a1,a2,a3,w1,w6,s1,s2,s3,s4,s5⟩:=JX N n1 m1 d1 k (by omega) gq jv;obtain ⟨b1,b2,b3,w2,z7,t1,t2,t3,t4,t5⟩:=JX N n2 m2 d2 k (by omega) dv jx;rw[s5,t5];have hA:=λ q q'=>nX N a1 b1 q q' a2 b2 (s1.le (by omega)) (t1.le (by omega))
 have Mn:Sm (k+1) (dg (zv a1 a2+zv b1 b2).natAbs):=uY (by rw[EM];exact s1.wo) (by rw[EM];exact t1.wo);by_cases hw:w1=true/\w2=true
 ·obtain ⟨rfl,rfl⟩:=hw
  rw[s4 rfl,t4 rfl,rR (by omega),rT];generalize zv a1 a2+zv b1 b2=z at *;refine Ev.x N.H0 rfl rfl ?_;(repeat' ((first|apply F9|apply AE|refine AD (w6) ?_|refine AD (z7) ?_|refine AD (hA _ _) ?_)<;>conv=>whnf))
  refine FC 1000 N.G6 rfl rfl ?_;(repeat' (apply AE<;>conv=>whnf))
  refine ⟨rfl,?_⟩;(conv=>whnf)
  (repeat' (refine HM rfl ?_<;>conv=>whnf))
  exact AX (aO z) (DJ _)
 ·have k7:=λ q q'=>O0 N.toc6 a3 b3 q q' s2.1 t2.1 (by have:=s2.2;omega) (by have:=t2.2;omega)
  by_cases hde:val a3=val b3
  ·have hn:C2 (val a3) (val b3)=0:=(QY (by omega)).symm
   rw[hn]at k7;rw[<-hde,rR s3];generalize zv a1 a2+zv b1 b2=z at *;have hl:=λ q1 q2=>UV N (decide (z<0)) q1 q2 (dg z.natAbs) a3 (Mn.le (by omega)) (s2.le (by omega)) s3
   unfold qv at hl;rw[ES]at hl;refine Ev.x N.H0 rfl rfl ?_;cases w1<;>cases w2
   ·(repeat' ((first|(apply AG<;>intro hc<;>try omega)|apply F9|apply AE|refine AD (w6) ?_|refine AD (z7) ?_|refine AD (hA _ _) ?_|refine AD (k7 _ _) ?_|refine AD (hl _ _) ?_)<;>conv=>whnf))
    exact AX rfl (DJ _)
   ·(repeat' ((first|(apply AG<;>intro hc<;>try omega)|apply F9|apply AE|refine AD (w6) ?_|refine AD (z7) ?_|refine AD (hA _ _) ?_|refine AD (k7 _ _) ?_|refine AD (hl _ _) ?_)<;>conv=>whnf))
    exact AX rfl (DJ _)
   ·(repeat' ((first|(apply AG<;>intro hc<;>try omega)|apply F9|apply AE|refine AD (w6) ?_|refine AD (z7) ?_|refine AD (hA _ _) ?_|refine AD (k7 _ _) ?_|refine AD (hl _ _) ?_)<;>conv=>whnf))
    exact AX rfl (DJ _)
   ·exact absurd ⟨rfl,rfl⟩ hw
  ·have hn:C2 (val a3) (val b3)≠0:=by unfold C2;split<;>(try split)<;>omega
   generalize C2 (val a3) (val b3)=cm at *;have bg:=λ q q'=>Q7 N a1 false q q' a2 b3 s1.1 t2.1 (by have:=s1.2;have:=t2.2;omega)
   have y8:=λ q q'=>Q7 N b1 false q q' b2 a3 t1.1 s2.1 (by have:=t1.2;have:=s2.2;omega)
   have rf:=λ q q'=>cN N.toc6 a3 b3 q q' s2.1 t2.1 (by have:=s2.2;have:=t2.2;omega)
   have xq:=SW N a3;have me:=SW N b3;have g1:Sm (k+k) (dg (zv a1 a2*zv false b3).natAbs):=RW s1 t2;have g2:Sm (k+k) (dg (zv b1 b2*zv false a3).natAbs):=RW t1 s2;have g3:=uY g1 g2;have g4:Sm (k+k) (dg (val a3*val b3)):=s2.mul t2 rfl;rw[YP s3 t3,<-D9 b3,<-D9 a3];have Bl:val a3*val b3≠0:=Nat.mul_ne_zero s3 t3;generalize zv a1 a2*zv false b3=x at *;generalize zv b1 b2*zv false a3=y at *;generalize val a3*val b3=D at *;have Ap:=λ q q'=>nX N (decide (x<0)) (decide (y<0)) q q' (dg x.natAbs) (dg y.natAbs) (g1.le (by omega)) (g2.le (by omega))
   rw[ES,ES]at Ap;generalize x+y=z at *;have hl:=λ q1 q2=>UV N (decide (z<0)) q1 q2 (dg z.natAbs) (dg D) (g3.le (by omega)) (g4.le (by omega)) (by rw[BT];exact Bl)
   unfold qv at hl;rw[ES,BT]at hl;refine Ev.x N.H0 rfl rfl ?_;cases w1<;>cases w2
   ·(repeat' ((first|(apply AG<;>intro hc<;>try omega)|apply F9|apply QM|apply AE|refine AD (w6) ?_|refine AD (z7) ?_|refine AD (k7 _ _) ?_|refine AD (xq) ?_|refine AD (me) ?_|refine AD (bg _ _) ?_|refine AD (y8 _ _) ?_|refine AD (Ap _ _) ?_|refine AD (rf _ _) ?_|refine AD (hl _ _) ?_)<;>conv=>whnf))
    exact AX rfl (DJ _)
   ·(repeat' ((first|(apply AG<;>intro hc<;>try omega)|apply F9|apply QM|apply AE|refine AD (w6) ?_|refine AD (z7) ?_|refine AD (k7 _ _) ?_|refine AD (xq) ?_|refine AD (me) ?_|refine AD (bg _ _) ?_|refine AD (y8 _ _) ?_|refine AD (Ap _ _) ?_|refine AD (rf _ _) ?_|refine AD (hl _ _) ?_)<;>conv=>whnf))
    exact AX rfl (DJ _)
   ·(repeat' ((first|(apply AG<;>intro hc<;>try omega)|apply F9|apply QM|apply AE|refine AD (w6) ?_|refine AD (z7) ?_|refine AD (k7 _ _) ?_|refine AD (xq) ?_|refine AD (me) ?_|refine AD (bg _ _) ?_|refine AD (y8 _ _) ?_|refine AD (Ap _ _) ?_|refine AD (rf _ _) ?_|refine AD (hl _ _) ?_)<;>conv=>whnf))
    exact AX rfl (DJ _)
   ·exact absurd ⟨rfl,rfl⟩ hw
theorem YA (N:a4 L) (k:Nat) (hk:1<=k/\k<=68719476736) (n1 n2 q1 q2 q3 q4:Bool) (m1 d1 m2 d2:List Nat) (gq:Sm k m1) (jv:Sm k d1) (dv:Sm k m2) (jx:Sm k d2) :
  Ev L 99 [.agg (rQ q1 q2 n1 m1 d1),.agg (rQ q3 q4 n2 m2 d2)] (.agg (eQ (qv n1 m1 d1*qv n2 m2 d2))):=by
 obtain ⟨a1,a2,a3,w1,w6,s1,s2,s3,s4,s5⟩:=JX N n1 m1 d1 k (by omega) gq jv;obtain ⟨b1,b2,b3,w2,z7,t1,t2,t3,t4,t5⟩:=JX N n2 m2 d2 k (by omega) dv jx;rw[s5,t5,eR];have bg:=λ q q'=>Q7 N a1 b1 q q' a2 b2 s1.1 t1.1 (by have:=s1.2;have:=t1.2;omega)
 have rf:=λ q q'=>cN N.toc6 a3 b3 q q' s2.1 t2.1 (by have:=s2.2;have:=t2.2;omega)
 have g1:Sm (k+k) (dg (zv a1 a2*zv b1 b2).natAbs):=RW s1 t1;have g4:Sm (k+k) (dg (val a3*val b3)):=s2.mul t2 rfl;have Bl:val a3*val b3≠0:=Nat.mul_ne_zero s3 t3;generalize zv a1 a2*zv b1 b2=z at *;by_cases hw:w1=true/\w2=true
 ·obtain ⟨rfl,rfl⟩:=hw
  rw[s4 rfl,t4 rfl,Nat.one_mul,rT];refine Ev.x N.JG rfl rfl ?_;(repeat' ((first|apply F9|apply AE|refine AD (w6) ?_|refine AD (z7) ?_|refine AD (bg _ _) ?_)<;>conv=>whnf))
  refine FC 1000 N.G6 rfl rfl ?_;(repeat' (apply AE<;>conv=>whnf))
  refine ⟨rfl,?_⟩;(conv=>whnf)
  (repeat' (refine HM rfl ?_<;>conv=>whnf))
  exact AX (aO z) (DJ _)
 ·generalize val a3*val b3=D at *
  have hl:=λ q1 q2=>UV N (decide (z<0)) q1 q2 (dg z.natAbs) (dg D) (g1.le (by omega)) (g4.le (by omega)) (by rw[BT];exact Bl)
  unfold qv at hl;rw[ES,BT]at hl;refine Ev.x N.JG rfl rfl ?_;cases w1<;>cases w2
  ·(repeat' ((first|apply F9|apply AE|refine AD (w6) ?_|refine AD (z7) ?_|refine AD (bg _ _) ?_|refine AD (rf _ _) ?_|refine AD (hl _ _) ?_)<;>conv=>whnf))
   exact AX rfl (DJ _)
  ·(repeat' ((first|apply F9|apply AE|refine AD (w6) ?_|refine AD (z7) ?_|refine AD (bg _ _) ?_|refine AD (rf _ _) ?_|refine AD (hl _ _) ?_)<;>conv=>whnf))
   exact AX rfl (DJ _)
  ·(repeat' ((first|apply F9|apply AE|refine AD (w6) ?_|refine AD (z7) ?_|refine AD (bg _ _) ?_|refine AD (rf _ _) ?_|refine AD (hl _ _) ?_)<;>conv=>whnf))
   exact AX rfl (DJ _)
  ·exact absurd ⟨rfl,rfl⟩ hw
theorem Vt (x:Rat) (e:Int):A2 (.e6 [.agg (eQ x),.int .i64 e]):=by
 simp only[A2,B8,and_true,true_and];exact ⟨B5 _,B5 _⟩
theorem cX (N:a4 L) (k:Nat) (hk:1<=k/\k<=68719476736) (n1 n2 q1 q2 q3 q4:Bool) (m1 d1 m2 d2:List Nat) (gq:Sm k m1) (jv:Sm k d1) (dv:Sm k m2) (jx:Sm k d2) (h0:qv n2 m2 d2≠0) :
  Ev L 100 [.agg (rQ q1 q2 n1 m1 d1),.agg (rQ q3 q4 n2 m2 d2)] (.e6 [.agg (eQ (qv n1 m1 d1/qv n2 m2 d2)),.int .i64 0]):=by
 obtain ⟨a1,a2,a3,w1,w6,s1,s2,s3,s4,s5⟩:=JX N n1 m1 d1 k (by omega) gq jv;obtain ⟨b1,b2,b3,w2,z7,t1,t2,t3,t4,t5⟩:=JX N n2 m2 d2 k (by omega) dv jx;rw[t5]at h0;rw[s5,t5];have ql:zv b1 b2≠0:=λ h=>h0 ((YQ t3).2 h)
 rw[AfE s3 t3 ql];have hS:=λ q=>UU N b1 q b2 (t1.le (by omega))
 have sj:n6 (zv b1 b2)≠0:=by unfold n6;split<;>(try split)<;>omega
 have bg:=λ q q'=>Q7 N a1 false q q' a2 b3 s1.1 t2.1 (by have:=s1.2;have:=t2.2;omega)
 have y8:=λ q q'=>Q7 N false b1 q q' a3 b2 s2.1 t1.1 (by have:=t1.2;have:=s2.2;omega)
 have xq:=SW N a3;have me:=SW N b3;have g1:Sm (k+k) (dg (zv a1 a2*zv false b3).natAbs):=RW s1 t2;have g2:Sm (k+k) (dg (zv false a3*zv b1 b2).natAbs):=RW s2 t1;have hd:(zv false a3*zv b1 b2).natAbs=val a3*(zv b1 b2).natAbs:=by rw[Int.natAbs_mul,EM]
 have Bm:(zv false a3*zv b1 b2).sign=(zv b1 b2).sign:=by
  rw[Int.sign_mul,D9,Int.sign_eq_one_of_pos (by omega),Int.one_mul]
 have pq:zv false a3*zv b1 b2≠0:=by
  intro h;rw[h]at Bm;exact ql (by simpa using Bm.symm)
 rw[<-hd,<-Bm,<-D9 b3];generalize zv a1 a2*zv false b3=x at *;generalize zv false a3*zv b1 b2=y at *;generalize n6 (zv b1 b2)=sg at *;have hl:=λ q1 q2=>UV N (decide (x<0) != decide (y<0)) q1 q2 (dg x.natAbs) (dg y.natAbs) (g1.le (by omega)) (g2.le (by omega)) (by rw[BT];omega)
 unfold qv at hl;rw[AhT pq,BT]at hl;refine Ev.x N.JF rfl rfl ?_;(repeat' ((first|(apply AG<;>intro hc<;>try omega)|apply F9|apply QM|apply AE|refine AD (w6) ?_|refine AD (z7) ?_|refine AD (hS _) ?_|refine AD (xq) ?_|refine AD (me) ?_|refine AD (bg _ _) ?_|refine AD (y8 _ _) ?_)<;>conv=>whnf))
 refine FC 1000 N.MG rfl rfl ?_;(repeat' (apply AE<;>conv=>whnf))
 generalize decide (x<0)=p at *;generalize decide (y<0)=r at *;cases p<;>cases r;all_goals
  (conv=>whnf)
  refine ⟨rfl,?_⟩;(conv=>whnf)
  (repeat' (refine AD (hl _ _) ?_<;>conv=>whnf))
  exact AX rfl (Vt _ _)
theorem Zc (N:a4 L) (k:Nat) (hk:1<=k/\k<=68719476736) (n1 n2 q1 q2 q3 q4:Bool) (m1 d1 m2 d2:List Nat) (gq:Sm k m1) (jv:Sm k d1) (dv:Sm k m2) (jx:Sm k d2) (h0:qv n2 m2 d2=0) :
  Ev L 100 [.agg (rQ q1 q2 n1 m1 d1),.agg (rQ q3 q4 n2 m2 d2)] (.e6 [.agg (rQ false false false [] []),.int .i64 3]):=by
 obtain ⟨a1,a2,a3,w1,w6,s1,s2,s3,s4,s5⟩:=JX N n1 m1 d1 k (by omega) gq jv;obtain ⟨b1,b2,b3,w2,z7,t1,t2,t3,t4,t5⟩:=JX N n2 m2 d2 k (by omega) dv jx;rw[t5,YQ t3]at h0;have hS:=λ q=>UU N b1 q b2 (t1.le (by omega))
 rw[h0,<-VX rfl]at hS;refine Ev.x N.JF rfl rfl ?_;(repeat' ((first|(apply AG<;>intro hc<;>try omega)|apply F9|apply AE|refine AD (w6) ?_|refine AD (z7) ?_|refine AD (hS _) ?_)<;>conv=>whnf))
 refine AX rfl ?_;simp only[A2,B8,and_true,true_and];exact ⟨B5 [],B5 []⟩
end Go.b8

namespace Go.b8
open Go.ChangeShapes Go.WideShapes Go.ChangeAt Go.RowKit
inductive Ty where
 | int (k:IntKind)
 | bool
 | sl (e:Ty)
 | nil
 | cons (a r:Ty)
def Ty.cells:Ty->Nat
 | .int _=>1 | .bool=>1 | .sl _=>1
 | .nil=>0
 | .cons a r=>a.cells+r.cells
def FK (l:Bool):Ty->List AV->Prop
 | .int k,cs => ∃ n,cs=[.int k n]/\(Lit.int k n).wf=true
 | .bool,cs => ∃ b,cs=[.bool b]
 | .sl e,cs => ∃ es,cs=[.sl l es]/\es.length<=maxLen /\ ∀ x∈es,FK l e x
 | .nil,cs=>cs=[]
 | .cons a r,cs => ∃ x y,cs=x++y/\FK l a x/\FK l r y
theorem FK.len {l:Bool} : ∀ {ty:Ty} {cs:List AV},FK l ty cs->cs.length=ty.cells
 | .int _,cs,h=>by obtain ⟨n,rfl,_⟩:=h;rfl
 | .bool,cs,h=>by obtain ⟨n,rfl⟩:=h;rfl
 | .sl _,cs,h=>by obtain ⟨n,rfl,_⟩:=h;rfl
 | .nil,cs,h=>by rw[show cs=[] from h];rfl
 | .cons a r,cs,h=>by obtain ⟨x,y,rfl,h1,h2⟩:=h;simp [Ty.cells,FK.len h1,FK.len h2]
def L0 (P:Program):Nat->TypeId->Ty->Bool
 | 0,_,_=>false
 | n+1,t,ty=>match P.underlying t,ty with
  | some (.int k),.int k'=>decide (k=k')
  | some .bool,.bool=>true
  | some (.slice e),.sl lj=>L0 P n e lj&&(P.cellsOf e == lj.cells&&decide (0<lj.cells))
  | some (.struct fs),ty=>go (L0 P n) fs.toList 0 ty&&P.cellsOf t == ty.cells
  | _,_=>false
where
 go (ok:TypeId->Ty->Bool):List Field->Nat->Ty->Bool
  | [],_,.nil=>true
  | f::fs,off,.cons a r=>(f.offset == off&&(ok f.type a&&P.cellsOf f.type == a.cells))&&go ok fs (off+a.cells) r
  | _,_,_=>false
section
variable {H:Type} {enc:TypeId × Value->H} {P:Program} {w:World} {base:Nat} {spare:Nat->Bool} {held:Bool} {R:Bool->Nat->Prop}
def HC (w:World) (R:Bool->Nat->Prop) (as:List AV) (cs:List Value):Prop:=as.length=cs.length /\ ∀ (j:Nat) (a:AV) (c:Value),as[j]? = some a->cs[j]? = some c->Rd w R a c
theorem HC.one {a:AV} {c:Value} (h:Rd w R a c):HC w R [a] [c]:=by
 refine ⟨rfl,λ j a' c' h1 h2 => ?_⟩;cases j with
 | zero=>simp at h1 h2;subst h1 h2;exact h
 | succ j=>simp at h1
theorem HC.append {as bs:List AV} {cs ds:List Value} (h1:HC w R as cs) (h2:HC w R bs ds):HC w R (as++bs) (cs++ds):=by
 refine ⟨by simp [h1.1,h2.1],λ j a c ha hc => ?_⟩;by_cases hj:j<as.length
 ·rw[List.getElem?_append_left hj]at ha
  rw[List.getElem?_append_left (by rw[<-h1.1];exact hj)]at hc;exact h1.2 j a c ha hc
 ·rw[List.getElem?_append_right (by omega)]at ha
  rw[List.getElem?_append_right (by rw[<-h1.1];omega),<-h1.1]at hc;exact h2.2 _ a c ha hc
theorem kF (a:Addr) (i:Nat) (h:a.spot=none):a.add i=⟨a.block,a.off+i,none⟩:=by
 obtain ⟨b,o,s⟩:=a;simp only at h;subst h;exact G0 b o i
theorem tA {l:Bool} (hR : ∀ b,b<w.heap.size->R l b) (m:Nat) (ih : ∀ (ty:Ty) (t:TypeId) (cs:List Value) (fuel:Nat) (x:DataW H × List MemPlace),L0 P m t ty=true->DataW.trod enc P w base spare held fuel t cs=some x -> ∃ as,FK l ty as/\HC w R as cs)
  (n:Nat) (cs:List Value) : ∀ (fs:List Field) (off:Nat) (ty:Ty),L0.go P (L0 P m) fs off ty=true->(∀ f∈fs,∃ y,DataW.trod enc P w base spare held n f.type ((cs.drop f.offset).take (P.cellsOf f.type))=some y)->off+ty.cells=cs.length -> ∃ as,FK l ty as/\HC w R as (cs.drop off)
 | [],off,ty,g6,_,hl=>by
  cases ty<;>simp only[L0.go,Bool.false_eq_true]at g6;simp only[Ty.cells]at hl;exact ⟨[],rfl,by rw[List.drop_of_length_le (by omega)];exact ⟨rfl,λ j a c h=>by simp at h⟩⟩
 | f::fs,off,ty,g6,hf,hl=>by
  cases ty<;>simp only[L0.go,Bool.false_eq_true,Bool.and_eq_true,beq_iff_eq]at g6;rename_i a r;obtain ⟨⟨h1,h2,h3⟩,h4⟩:=g6;simp only[Ty.cells]at hl;obtain ⟨y,hy⟩:=hf f List.mem_cons_self;rw[h1,h3]at hy;obtain ⟨Nv,g1,g2⟩:=ih a f.type _ n y h2 hy;obtain ⟨Nw,g3,g4⟩:=tA hR m ih n cs fs (off+a.cells) r h4 (λ f' h'=>hf f' (List.mem_cons_of_mem _ h')) (by omega);refine ⟨Nv++Nw,⟨Nv,Nw,rfl,g1,g3⟩,?_⟩;have:=g2.append g4
  rwa [show (cs.drop off).take a.cells++cs.drop (off+a.cells)=cs.drop off by rw[<-List.drop_drop,List.take_append_drop]]at this
theorem sZ {l:Bool} (hR : ∀ b,b<w.heap.size->R l b) : ∀ (m:Nat) (ty:Ty) (t:TypeId) (cs:List Value) (fuel:Nat) (x:DataW H × List MemPlace),L0 P m t ty=true->DataW.trod enc P w base spare held fuel t cs=some x -> ∃ as,FK l ty as/\HC w R as cs
 | 0,_,_,_,_,_,h,_=>by simp [L0]at h
 | m+1,ty,t,cs,fuel,x,g6,h=>by
  have ih:=sZ hR m;simp only[L0]at g6;split at g6
  ·rename_i k k' hu
   obtain rfl:k=k':=by simpa using g6
   obtain ⟨n,rfl,_,hw⟩:=DataW.trod_int hu h;exact ⟨[.int k n],⟨n,rfl,hw⟩,HC.one (.int k n)⟩
  ·rename_i hu
   cases fuel with
   | zero=>simp [DataW.trod]at h
   | succ fuel =>
    unfold DataW.trod at h;rw[hu]at h;split at h<;>simp_all
    exact ⟨_,⟨_,rfl⟩,HC.one (.bool _)⟩
  ·rename_i e lj hu
   simp only[Bool.and_eq_true,beq_iff_eq,decide_eq_true_eq]at g6;obtain ⟨h1,h2,h3⟩:=g6;rcases DataW.trod_slice hu h with ⟨rfl,_⟩|⟨a,len,cap,elems,rest,n,_,rfl,_,hb,hl,hm,hlen,dm,_,_⟩
   ·exact ⟨[.sl l []],⟨[],rfl,by simp,by simp⟩,HC.one (.jb l none 0)⟩
   ·have each : ∀ i,i<len -> ∃ as dk,FK l lj as/\HC w R as dk/\dk.length=lj.cells /\ ∀ j,j<lj.cells->w.cell? ((a.add (i*lj.cells)).add j)=dk[j]? := by
     intro i hi;have:=dm i hi
     rw[h2,zE (by omega),Option.bind_eq_some_iff]at this;obtain ⟨dk,hc,ht⟩:=this;obtain ⟨as,g1,g2⟩:=ih lj e dk n _ h1 ht;obtain ⟨_,q1,q2⟩:=World.cells?_some hc;exact ⟨as,dk,g1,g2,q1,q2⟩
    by_cases h0:len=0
    ·subst h0
     exact ⟨[.sl l []],⟨[],rfl,by simp,by simp⟩,HC.one (.jb l (some a) cap)⟩
    ·have zz:a.spot=none:=by
      obtain ⟨as,dk,_,_,q1,q2⟩:=each 0 (by omega);have:=q2 0 h3
      rw[zE (by omega)]at this;simpa [Addr.add] using World.cell?_spot this
     have ng:a.block<w.heap.size:=by
      obtain ⟨as,dk,_,_,q1,q2⟩:=each 0 (by omega);have:=q2 0 h3
      rw[zE (by omega)]at this;simpa [Addr.add] using QW this
     have pick : ∃ f:Nat->List AV × List Value,∀ i,i<len->FK l lj (f i).1/\HC w R (f i).1 (f i).2/\(f i).2.length=lj.cells /\ ∀ j,j<lj.cells->w.cell? ((a.add (i*lj.cells)).add j)=(f i).2[j]? := by
      refine ⟨λ i=>if hi:i<len then (Classical.choose (each i hi),Classical.choose (Classical.choose_spec (each i hi))) else ([],[]),λ i hi => ?_⟩;simp only[hi,dif_pos];exact Classical.choose_spec (Classical.choose_spec (each i hi))
     obtain ⟨f,hf⟩:=pick;have l9 : ∀ i e',((List.range len).map λ i=>(f i).1)[i]? = some e'->i<len/\e'=(f i).1:=by
      intro i e' he;rw[List.getElem?_map]at he;by_cases hi:i<len
      ·rw[List.getElem?_range hi]at he
       simp at he;exact ⟨hi,he.symm⟩
      ·rw[List.getElem?_eq_none (by simpa using hi)]at he
       cases he
     refine ⟨[.sl l ((List.range len).map λ i=>(f i).1)],⟨_,rfl,by simp;omega,λ x hx => ?_⟩,HC.one ?_⟩
     ·obtain ⟨i,hi,rfl⟩:=List.mem_map.1 hx
      exact (hf i (List.mem_range.1 hi)).1
     ·obtain ⟨ab,ao,as⟩:=a
      simp only at zz;subst zz;have zs:((List.range len).map λ i=>(f i).1).length=len:=by simp
      have:=Rd.sl (w:=w) (R:=R) l ((List.range len).map λ i=>(f i).1) ab ao lj.cells cap (λ i j=>((f i).2[j]?).getD default) (by intro e;have:=congrArg List.length e;simp at this;omega) h3 (hR ab ng) (by rw[zs];exact hl)
       (λ e' he=>by
        obtain ⟨i,hi,rfl⟩:=List.mem_map.1 he;exact (hf i (List.mem_range.1 hi)).1.len)
       (λ i e' he j c hc=>by
        obtain ⟨hi,rfl⟩:=l9 i e' he;obtain ⟨g1,g2,g3,g4⟩:=hf i hi;have hj:j<lj.cells:=by
         have:=(zS hc).1
         rwa [g1.len]at this
        have h5:=g4 j hj;rw[kF ⟨ab,ao,none⟩ (i*lj.cells) rfl,kF _ _ rfl]at h5;simp only at h5;rw[show ao+(i*lj.cells+j)=ao+i*lj.cells+j by omega,h5,zE (by omega)];rfl)
       (λ i e' he j c hc=>by
        obtain ⟨hi,rfl⟩:=l9 i e' he;obtain ⟨g1,g2,g3,g4⟩:=hf i hi;have hj:j<lj.cells:=by
         have:=(zS hc).1
         rwa [g1.len]at this
        have h6:(f i).2[j]? = some ((f i).2[j]'(by omega)):=zE _;rw[h6];exact g2.2 j c _ hc h6)
      rwa [zs]at this
  ·rename_i fs hu
   simp only[Bool.and_eq_true,beq_iff_eq]at g6;obtain ⟨h1,h2⟩:=g6;obtain ⟨xs,n,_,_,hl,hlen,hf⟩:=DataW.trod_struct hu h;have:=tA hR m ih n cs fs.toList 0 _ h1 (λ f ni=>by
    obtain ⟨i,hi,rfl⟩:=List.getElem_of_mem ni;have h5:=hf i fs.toList[i] (by simp);rw[h5,zE (by simpa [hlen] using hi)];exact ⟨_,rfl⟩) (by rw[hl,h2];omega)
   simpa using this
  ·exact absurd g6 (by simp)
theorem Y8 {ty:Ty} {t:TypeId} {v:Value} {d:DataW H} {ps:List MemPlace} {m:Nat} (g6:L0 P m t ty=true) (hv:v.cells.toList=[v]) (h:DataW.Trod enc P w base spare held t v d ps) :
  ∃ a,FK false ty [a]/\CA w.heap.size (λ_=>True) ⟨λ_ _=>none,AH.emp,w⟩ a v:=by
 obtain ⟨fuel,hf⟩:=h;rw[hv]at hf;obtain ⟨as,h1,h2⟩:=sZ (l:=false) (R:=safe w.heap.size (λ_=>True) ⟨λ_ _=>none,AH.emp,w⟩) (λ b hb=>Or.inl ⟨trivial,hb⟩) m ty t [v] fuel _ g6 hf;obtain ⟨a,rfl⟩ : ∃ a,as=[a]:=by
  have:=h2.1
  match as,this with
  | [a],_=>exact ⟨a,rfl⟩
 exact ⟨a,h1,.one (.rd (h2.2 0 a v rfl rfl))⟩
end
theorem Ta {B:Nat} {S:Nat->Prop} {m:M} : ∀ (j:Nat) (c:AV) (v:Value),([]:List AV)[j]? = some c->([]:List Value)[j]? = some v->CA B S m c v:=λ j c v h=>by simp at h
theorem W8 {B:Nat} {S:Nat->Prop} {m:M} {a:AV} {u:Value} {as:List AV} {us:List Value} (h:CA B S m a u) (hr : ∀ (j:Nat) (c:AV) (v:Value),as[j]? = some c->us[j]? = some v->CA B S m c v) :
  ∀ (j:Nat) (c:AV) (v:Value),(a::as)[j]? = some c->(u::us)[j]? = some v->CA B S m c v
 | 0,c,v,h1,h2=>by simp at h1 h2;subst h1 h2;exact h
 | j+1,c,v,h1,h2=>hr j c v (by simpa using h1) (by simpa using h2)
theorem Afj {P:Program} {num:Nat->Nat} {L:Lib} (hP:ProgOK P num L) {f:Nat} {vs:List AV} (h:Ev L f vs (.bool true)) {S:Nat->Prop} {w:World} {us:List Value} (hl:vs.length=us.length)
  (ha : ∀ (j:Nat) (c:AV) (v:Value),vs[j]? = some c->us[j]? = some v->CA w.heap.size S ⟨λ_ _=>none,AH.emp,w⟩ c v) :
  Calls P (num f) us.toArray w λ e w'=>e = .returned (.bool true)/\Below w.heap.size w w':=by
 obtain ⟨n,hn⟩:=h;refine ((Rz hP n).pure f vs _ hn S w us hl ha).mono ?_;rintro e w' ⟨u,rfl,hb,s9,_⟩
 refine ⟨?_,hb⟩;cases s9 with
 | ca lu=>cases lu with
  | one u7=>cases u7 with
   | rd iy=>cases iy;rfl
end Go.b8

namespace Go.b8
abbrev tI:Ty := .int .i64
theorem rF {α:Type} {enc:α->List AV} {p:α->Prop} : ∀ {es:List (List AV)},(∀ x∈es,∃ y,x=enc y/\p y) -> ∃ l:List α,es=l.map enc /\ ∀ y∈l,p y
 | [],_=>⟨[],rfl,by simp⟩
 | e::es,h=>by
  obtain ⟨y,rfl,hy⟩:=h e List.mem_cons_self;obtain ⟨l,rfl,hl⟩:=rF (enc:=enc) (p:=p) λ x hx=>h x (List.mem_cons_of_mem _ hx)
  exact ⟨y::l,rfl,by simpa using ⟨hy,hl⟩⟩
theorem AhH {n:Int} (h:(Lit.int .i64 n).wf=true):FQ n:=by
 simp only[Lit.wf,Bool.and_eq_true,decide_eq_true_eq]at h;have h1:IntKind.i64.min = -9223372036854775808:=rfl;have h2:IntKind.i64.max=9223372036854775807:=rfl;rw[h1,h2]at h;unfold FQ;constructor<;>omega
end Go.b8

namespace Go.b8
variable {L:Lib}
end Go.b8

namespace Go.b8
open F
attribute [local irreducible] AA AF AQ AC CI AW A5 A9 B4 B3 CE DE BX A3 BW CD AB A4 AJ pw BV BN CS CR C1 CY CT BL DD
variable {L:Lib}
set_option maxHeartbeats 8000000
theorem X5 (N:n9 L) (a m:Int) (ha:FQ a) (hm:1<=m/\m<=1000000):Ev L 224 [.int .i64 a,.int .i64 m] (.int .i64 (a%m)):=by
 unfold FQ at ha;have h1:=Int.emod_nonneg a (show m≠0 by omega);have h2:=Int.emod_lt_of_pos a (show 0<m by omega);refine Ev.x N.LE rfl rfl ?_;(repeat' ((first|(apply AG<;>intro hc<;>try omega)|(apply AZ;omega)|(refine T7 ?_ (λ_ _ _ => ?_) (λ_ _ _ _ => ?_);omega;all_goals try omega)|apply AE)<;>conv=>whnf))
 all_goals exact C6 (by omega)
abbrev eM (m:List (List Rat)):List (List AV):=m.map λ r=>[AV.sl false (r.map eQ)]
theorem kX (m:List (List Rat)):EZ (eM m):=UN (λ r=>by simp only[B8,A2,and_true,true_and];exact IZ r) m
theorem Age {o:AH} {s t:Nat} {b:DR} (h:o.get s t=some b):o.put s ((o s).m7 t (some b))=o:=by
 funext s'
 by_cases e:s'=s
 ·subst e
  rw[AH.g7];unfold AH.get at h;generalize o s'=x at *;cases x;simp only[CB.m7];congr 1;funext t'
  split
  ·subst t';exact h.symm
  ·rfl
 ·rw[AH.di _ _ _ _ e]
theorem Ahs (N:n9 L) {o:AH} {s t:Nat} {q:Bool} {es:List (List AV)} {a m:Int} (h:o.get s t=some ⟨2,[[.sl q es,.int .i64 a]]⟩) (ha:(es.length:Int)<=a) (c:Nat) :
  C4 L (c+64) 225 [.ptr s t 0 0,.int .i64 m] o=some (.int .i64 0,o):=by
 have hL:L.fn 225=some F.DC:=N.DC;rw[Q5];simp only[hL];simp only[F.DC,F.DC.c,List.length_cons,List.length_nil,if_true];simp [run,CZ,CO,c8,EW,St.ev,e5,gi,CN,F.DC.r0,F.DC.r1,F.DC.r2,C.o,C.m,C.k,C.n,St.app,St.dst,AH.nv,h,AH.l6,part,K6,ha,v8,AH.drop,II,C9,EX,HF,G9]
theorem Aht (N:n9 L) {o:AH} {s t:Nat} {q:Bool} {l:List Int} {a:Nat} {e m:Int} (h:o.get s t=some ⟨2,[[.sl q (l.map GD),.int .i64 a]]⟩) (ha:l[a]? = some e) (ue:a<9223372036854775807) (c:Nat)
  (hm:F4 L (c+63) 224 [.int .i64 e,.int .i64 m]=some (.int .i64 (e%m))) :
  C4 L (c+64) 225 [.ptr s t 0 0,.int .i64 m] o=some (.int .i64 (e%m),o.put s ((o s).m7 t (some ⟨2,[[.sl q (l.map GD),.int .i64 ((a+1:Nat):Int)]]⟩))):=by
 have hL:L.fn 225=some F.DC:=N.DC;have lq:=(zS ha).1;have g9 : ¬ (l.length:Int)<=(a:Int):=by omega
 have hw:IntKind.i64.wrap ((a:Int)+1)=(a:Int)+1:=IntWalk.i64_in _ (by omega);have hw2:IntKind.i64.wrap (a:Int)=(a:Int):=IntWalk.i64_in _ (by omega);have hg:(o.put s ((o s).m7 t (some ⟨2,[[.sl q (l.map GD),.int .i64 ((a:Int)+1)]]⟩))).get s t=some ⟨2,[[.sl q (l.map GD),.int .i64 ((a:Int)+1)]]⟩:=by
  unfold AH.get;rw[AH.g7];simp [CB.m7]
 have hmm:(CJ L (c+63)).pure 224 [.int .i64 e,.int .i64 m]=some (.int .i64 (e%m)):=hm;rw[Q5];simp only[hL];simp only[F.DC,F.DC.c,List.length_cons,List.length_nil,if_true];simp [run,CZ,CO,c8,EW,St.ev,e5,gi,CN,F.DC.r0,F.DC.r1,F.DC.r2,F.DC.r3,F.DC.r4,C.o,C.m,C.k,C.n,St.app,St.dst,AH.nv,AH.ko,h,AH.l6,part,K6,g9,v8,AH.drop,II,C9,EX,HF,G9,hw,splice,cellsOf,hg,hw2,ha,GD,CW,snap,hmm]
theorem OK.tape (N:n9 L) {s key:Nat} {q:Bool} {l:List Int} {a:Nat} {m:Int} {M:Mem} {K:AV->Mem->Prop} (hm:1<=m/\m<=1000000) (hv : ∀ v∈l,FQ v) (ha:a<9223372036854775807)
  (e:b7 M key=some (s,.bx [.sl q (l.map GD),.int .i64 a])) (h : ∀ (a':Nat) (z:Int),0<=z->z<m->a'<=a+1->K (.int .i64 z) ((key,s,.bx [.sl q (l.map GD),.int .i64 a'])::M)):OK L s 225 key [.int .i64 m] M K:=by
 by_cases hl:a<l.length
 ·have he:l[a]? = some l[a]:=zE hl
  generalize l[a]=x at he;have hx:=hv x (zM he);have h1:=Int.emod_nonneg x (show m≠0 by omega);have h2:=Int.emod_lt_of_pos x (show 0<m by omega);obtain ⟨c,hc⟩:=X5 N x m hx hm;have jc:F4 L (c+63) 224 [.int .i64 x,.int .i64 m]=some (.int .i64 (x%m)):=(EN (L:=L) (Nat.le_add_right c 63)).1 224 _ _ hc;refine ⟨_,[.sl q (l.map GD),.int .i64 ((a+1:Nat):Int)],.i64,x%m,e,rfl,rfl,λ t p hp=>⟨c+64,λ o ho => ?_⟩,h (a+1) (x%m) h1 h2 (Nat.le_refl _)⟩;have hg:o.get s t=some ⟨2,[[.sl q (l.map GD),.int .i64 a]]⟩:=by unfold AH.get;rw[ho];exact hp
  have:=Aht N hg he ha c jc
  rw[ho]at this;exact this
 ·refine ⟨_,[.sl q (l.map GD),.int .i64 a],.i64,0,e,rfl,rfl,λ t p hp=>⟨0+64,λ o ho => ?_⟩,h a 0 (Int.le_refl 0) (by omega) (by omega)⟩
  have hg:o.get s t=some ⟨2,[[.sl q (l.map GD),.int .i64 a]]⟩:=by unfold AH.get;rw[ho];exact hp
  have h1:=Ahs N hg (m:=m) (by rw[List.length_map];omega) 0;have h2:=Age hg;rw[ho]at h2;simp only[List.length_cons,List.length_nil];rw[show (⟨0+1+1,[[.sl q (l.map GD),.int .i64 (a:Int)]]⟩:DR)=⟨2,[[.sl q (l.map GD),.int .i64 (a:Int)]]⟩ from rfl,h2];exact h1
theorem Bt.sm {k:Nat} {x:Rat} (h:Bt k x) (hk:k<2199023255552):Sm 68719476736 (dg x.num.natAbs)/\Sm 68719476736 (dg x.den):=h.Ny (by omega)
theorem Q6 (N:a4 L) {x y:Rat} {k l:Nat} (hx:Bt k x) (hy:Bt l y) (hk:k<2199023255552) (hl:l<2199023255552):Ev L 98 [.agg (eQ x),.agg (eQ y)] (.agg (eQ (x+y))):=by
 have:=cW N 68719476736 (by omega) (decide (x.num<0)) (decide (y.num<0)) false false false false _ _ _ _ (hx.sm hk).1 (hx.sm hk).2 (hy.sm hl).1 (hy.sm hl).2
 rw[EG,EG]at this;exact this
theorem G3 (N:a4 L) {x y:Rat} {k l:Nat} (hx:Bt k x) (hy:Bt l y) (hk:k<2199023255552) (hl:l<2199023255552):Ev L 99 [.agg (eQ x),.agg (eQ y)] (.agg (eQ (x*y))):=by
 have:=YA N 68719476736 (by omega) (decide (x.num<0)) (decide (y.num<0)) false false false false _ _ _ _ (hx.sm hk).1 (hx.sm hk).2 (hy.sm hl).1 (hy.sm hl).2
 rw[EG,EG]at this;exact this
theorem SV (N:a4 L) {x y:Rat} {k l:Nat} (hx:Bt k x) (hy:Bt l y) (hk:k<2199023255552) (hl:l<2199023255552) (h0:y≠0):Ev L 100 [.agg (eQ x),.agg (eQ y)] (.e6 [.agg (eQ (x/y)),.int .i64 0]):=by
 have:=cX N 68719476736 (by omega) (decide (x.num<0)) (decide (y.num<0)) false false false false _ _ _ _ (hx.sm hk).1 (hx.sm hk).2 (hy.sm hl).1 (hy.sm hl).2 (by rw[EG];exact h0)
 rw[EG,EG]at this;exact this
theorem Zj (N:a4 L) {x:Rat} {k:Nat} (hx:Bt k x) (hk:k<2199023255552):Ev L 95 [.agg (eQ x)] (.agg (eQ x)):=by
 have:=YB N (decide (x.num<0)) false false _ _ ((hx.sm hk).1.le (by omega)) ((hx.sm hk).2.le (by omega))
 rw[EG]at this;exact this
theorem UZ (N:a4 L) {x:Rat} {k:Nat} (hx:Bt k x) (hk:k<2199023255552):Ev L 97 [.agg (eQ x)] (.int .i64 (n6 x.num)):=by
 have:=oT N (decide (x.num<0)) false false _ _ ((hx.sm hk).1.le (by omega)) ((hx.sm hk).2.le (by omega))
 rw[EG]at this;exact this
theorem RS {x:Rat}:n6 x.num=0↔x=0:=by
 rw[<-Rat.num_eq_zero];unfold n6;split
 ·omega
 ·split<;>omega
theorem tS (n:Bool) (m d:List Nat):qv (!n) m d = -(qv n m d):=by
 unfold qv;have h:zv (!n) m = -(zv n m):=by cases n<;>simp [zv]
 rw[h,Rat.neg_mkRat]
theorem Vx (n:Bool) (m d:List Nat):A2 (.agg (rQ false false n m d)):=by
 simp only[A2,B8,and_true,true_and];exact ⟨B5 _,B5 _⟩
theorem nV (N:w9 L) (n:Bool) (m d:List Nat):Ev L 149 [.agg (rQ false false n m d)] (.agg (rQ false false (!n) m d)):=by
 refine Ev.x N.MC rfl rfl ?_;cases n;all_goals
  (repeat' (apply AE<;>conv=>whnf))
  exact AX rfl (Vx _ _ _)
theorem oY (N:w9 L) {x y:Rat} {k l:Nat} (hx:Bt k x) (hy:Bt l y) (hk:k<2199023255552) (hl:l<2199023255552):Ev L 150 [.agg (eQ x),.agg (eQ y)] (.agg (eQ (x-y))):=by
 have hF:=nV N (decide (y.num<0)) (dg y.num.natAbs) (dg y.den);have hA:=λ q3 q4=>cW N.toa4 68719476736 (by omega) (decide (x.num<0)) (!decide (y.num<0)) false false q3 q4 _ _ _ _ (hx.sm hk).1 (hx.sm hk).2 (hy.sm hl).1 (hy.sm hl).2
 rw[tS,EG,EG,<-Rat.sub_eq_add_neg]at hA;refine Ev.x N.JH rfl rfl ?_;(repeat' ((first|apply jJ|apply AE|refine AD (hF) ?_|refine AD (hA _ _) ?_)<;>conv=>whnf))
 exact AX rfl (DJ _)
theorem pN {l:List Rat} {i:Nat} (h:l.length<=i):l.getD i 0=0:=by rw[List.getD_eq_getElem?_getD,List.getElem?_eq_none h];rfl
theorem Zu (N:dz L) (q:Bool) (l:List Rat) (k:Nat) (hl:Bs k l) (hk:k<2199023255552) (hn:l.length<=1000000):Ev L 170 [.sl q (l.map eQ)] (.sl false ((CP l).map eQ)):=by
 refine Ev.x N.L2 rfl rfl ?_;(repeat' (apply AE<;>conv=>whnf))
 refine FW 1000 N.JA rfl rfl ?_;(repeat' ((first|apply AU|apply AE)<;>conv=>whnf))
 refine C5 (λ n=>n) (λ(n:Nat)=>n<=l.length/\C8 l l.length=C8 l n) (λ n=>[(3,.int .i64 n)]) (λ_=>[]) l.length ⟨Nat.le_refl _,rfl⟩ ?_;intro n ⟨p1,p2⟩ ih;have done : ∀ {n:Nat},C8 l l.length=n->CP l=l.take n:=λ h=>by rw[CP,h]
 by_cases hz:n=0\/(∃ m x,n=m+1/\l[m]? = some x/\x≠0)
 ·have pg:C8 l l.length=n:=by
   rw[p2];rcases hz with rfl|⟨m,x,rfl,h1,h2⟩
   ·rfl
   ·rw[C8,if_neg]
    rw[List.getD_eq_getElem?_getD,h1];exact h2
  have Qh:=done pg;have de:(l.take n).length=n:=by rw[List.length_take];omega
  clear ih pg p2 done;rcases hz with h0|⟨m,x,Pz,h1,h2⟩
  case' inl=>(repeat' ((first|(apply AG<;>intro hc<;>try omega)|apply AE)<;>conv=>whnf))
  case' inr =>
   have xa:l[((n:Int)-1).toNat]? = some x:=by rw[show ((n:Int)-1).toNat=m by omega];exact h1
   have Ey:=UZ N.toa4 (hl.at h1) (by omega);have hs:=RS (x:=x);generalize n6 x.num=s at *;have hS : ∀ v,l[((n:Int)-1).toNat]? = some v->Ev L 97 [.agg (eQ v)] (.int .i64 s):=λ v h=>by
    obtain rfl:=Option.some.inj (xa.symm.trans h);exact Ey
   have bp:s≠0:=λ h=>h2 (hs.1 h)
   (repeat' ((first|(apply AG<;>intro hc<;>try omega)|(apply B1;omega)|(refine BA (by assumption) ?_ rfl ?_;omega)|apply AE|refine AD (Ey) ?_)<;>conv=>whnf))
  all_goals
   refine OR (enc:=eQ) (λ_=>rfl) p1 ?_;(conv=>whnf)
   skip
   refine ⟨rfl,_,rfl,?_⟩;(conv=>whnf)
   (repeat' (apply AU<;>conv=>whnf))
   refine EJ (enc:=eO) none n rfl (by rw[de]) (by omega) ?_;(conv=>whnf)
   skip
   refine EI (λ i=>n-i) (λ(i:Nat)=>i<=n) (λ i=>[(11,.int .i64 i)]) (λ i=>[(170008,170008,.rw 3 ((C0 (l.take i) n).map eO))]) [] [] 0 (by first|exact (by (conv=>whnf);exact ⟨rfl,rfl,rfl⟩)|(rw[List.take_zero,<-JZ];exact (by (conv=>whnf);exact ⟨rfl,rfl,rfl⟩))) (by omega) ?_;intro i g1 ih;by_cases hi:i<n
   ·all_goals try omega
    all_goals
     obtain ⟨y,hy⟩ : ∃ y,l[i]? = some y:=⟨_,zE (by omega)⟩;have Cs:l[(i:Int).toNat]? = some y:=hy;have om:(l.take i).length=i:=by rw[List.length_take];omega
     have Dk:=HT (l:=l.take i) (m:=n) (by omega);have g8:=IH (l:=l.take i) (m:=n) (x:=y) (by omega);rw[om,<-wF hy]at g8;have Ox:=Zj N.toa4 (hl.at hy) (by omega);have hT : ∀ v,l[(i:Int).toNat]? = some v->Ev L 95 [.agg (eQ v)] (.agg (eQ y)):=λ v h=>by
      obtain rfl:=Option.some.inj (Cs.symm.trans h);exact Ox
     (repeat' ((first|(apply AG<;>intro hc<;>try omega)|(apply AY;omega)|(refine BA (by assumption) ?_ rfl ?_;omega)|apply AE|refine AD (Ox) ?_)<;>conv=>whnf))
     refine ET (enc:=eO) (some y) rfl (λ e=>by cases e<;>rfl) (by omega) ?_;(conv=>whnf)
     (repeat' ((first|(apply AZ;omega)|fail)<;>conv=>whnf))
     rw[g8];exact BM [] (ih (i+1) (by omega) (by omega))
   ·obtain rfl:i=n:=by omega
    clear ih;rw[JY de,<-Qh]at *;rw[<-Qh]at de;(repeat' ((first|(apply AG<;>intro hc<;>try omega)|apply AE)<;>conv=>whnf))
    refine EE (enc:=eQ) (λ_=>rfl) rfl de.symm ?_;(conv=>whnf)
    exact AX rfl (by simp only[A2,true_and];exact IZ _)
 ·obtain ⟨m,rfl⟩ : ∃ m,n=m+1:=⟨n-1,by omega⟩
  obtain ⟨x,hx⟩ : ∃ x,l[m]? = some x:=⟨_,zE (by omega)⟩;have mj:x=0:=by
   rcases Classical.em (x=0) with h|h
   ·exact h
   ·exact (hz (Or.inr ⟨m,x,rfl,hx,h⟩)).elim
  have mi:l[((m+1:Nat)-1:Int).toNat]? = some x:=by rw[show ((m+1:Nat)-1:Int).toNat=m by omega];exact hx
  have Ey:=UZ N.toa4 (hl.at hx) (by omega);have hs:=RS (x:=x);generalize n6 x.num=s at *;have hS : ∀ v,l[((m+1:Nat)-1:Int).toNat]? = some v->Ev L 97 [.agg (eQ v)] (.int .i64 s):=λ v h=>by
   obtain rfl:=Option.some.inj (mi.symm.trans h);exact Ey
  have bp:=hs.2 mj;(repeat' ((first|(apply AG<;>intro hc<;>try omega)|(apply B1;omega)|(refine BA (by assumption) ?_ rfl ?_;omega)|apply AE|refine AD (Ey) ?_)<;>conv=>whnf))
  rw[show ((m+1:Nat):Int)-1=(m:Int) by omega];exact BM [] (ih m (by omega) ⟨by omega,by rw[p2,C8,if_pos (by rw[List.getD_eq_getElem?_getD,hx];exact mj)]⟩)
end Go.b8
