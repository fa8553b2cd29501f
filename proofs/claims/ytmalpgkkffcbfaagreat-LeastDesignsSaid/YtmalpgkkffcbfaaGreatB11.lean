/-
  Rational numbers of the program: Compare, Neg; and the parts of a filter.
-/
import Derived.Test.YtmalpgkkffcbfaaGreatB10
import Derived.Test.YtmalpgkkffcbfaaGreatB9
import Derived.Test.YtmalpgkkffcbfaaGreatB1
import Derived.Test.YtmalpgkkffcbfaaGreatB2
import Derived.Test.YtmalpgkkffcbfaaGreatB8
import Derived.Test.YtmalpgkkffcbfaaGreatB7
set_option linter.unusedSimpArgs false
set_option linter.unusedVariables false
set_option linter.unnecessarySimpa false
namespace Go.b8
open F
attribute [local irreducible] AA AF AQ AC CI AW A5 A9 B4 B3 CE DE BX A3 BW CD AB A4 AJ pw BV BN CS CR C1 CY CT BL DD
variable {L:Lib}
set_option maxHeartbeats 8000000
theorem ZQ (z:Int):n6 z = -1/\z<0\/n6 z=0/\z=0\/n6 z=1/\0<z:=by
 unfold n6;split
 ·exact Or.inl ⟨rfl,by omega⟩
 ·split
  ·exact Or.inr (Or.inr ⟨rfl,by omega⟩)
  ·exact Or.inr (Or.inl ⟨rfl,by omega⟩)
theorem Wg {a b:Nat} {z:Int} (h:z=(a:Int)-b):C2 a b=n6 z:=by
 unfold C2 n6;subst h;repeat' split
 all_goals omega
theorem nY (N:z8 L) (n1 n2 q1 q2:Bool) (a b:List Nat) (ha:Sm 549755813888 a) (hb:Sm 549755813888 b):Ev L 197 [.agg (rZ q1 n1 a),.agg (rZ q2 n2 b)] (.int .i64 (n6 (zv n1 a-zv n2 b))):=by
 have h1:=λ q=>UU N.toa4 n1 q a ha
 have h2:=λ q=>UU N.toa4 n2 q b hb
 have h3:=λ q q'=>O0 N.toc6 a b q q' ha.1 hb.1 (by have:=ha.2;omega) (by have:=hb.2;omega)
 have h4:=λ q q'=>O0 N.toc6 b a q q' hb.1 ha.1 (by have:=hb.2;omega) (by have:=ha.2;omega)
 have za:=EM n1 a;have zb:=EM n2 b;generalize zv n1 a=x at *;generalize zv n2 b=y at *;rcases ZQ x with ⟨e1,g1⟩|⟨e1,g1⟩|⟨e1,g1⟩<;>rcases ZQ y with ⟨e2,g2⟩|⟨e2,g2⟩|⟨e2,g2⟩
 all_goals
  rw[e1]at h1;rw[e2]at h2;refine Ev.x N.KV rfl rfl ?_;(repeat' ((first|(apply AG<;>intro hc<;>try omega)|apply AE|refine AD (h1 _) ?_|refine AD (h2 _) ?_|refine AD (h3 _ _) ?_|refine AD (h4 _ _) ?_)<;>conv=>whnf))
  first
   | exact C6 (gP (by omega))
   | exact C6 (gQ (by omega))
   | exact C6 (Wg (by omega))
theorem oS (N:z8 L) (k:Nat) (hk:1<=k/\k<=68719476736) (n1 n2:Bool) (m1 d1 m2 d2:List Nat) (gq:Sm k m1) (jv:Sm k d1) (dv:Sm k m2) (jx:Sm k d2) :
  Ev L 198 [.agg (rQ false false n1 m1 d1),.agg (rQ false false n2 m2 d2)] (.int .i64 (n6 (qv n1 m1 d1-qv n2 m2 d2).num)):=by
 obtain ⟨a1,a2,a3,w1,w6,s1,s2,s3,s4,s5⟩:=JX N.toa4 n1 m1 d1 k (by omega) gq jv;obtain ⟨b1,b2,b3,w2,z7,t1,t2,t3,t4,t5⟩:=JX N.toa4 n2 m2 d2 k (by omega) dv jx;rw[s5,t5,<-rS s3 t3];by_cases hw:w1=true/\w2=true
 ·obtain ⟨rfl,rfl⟩:=hw
  have hC:=λ q q'=>nY N a1 b1 q q' a2 b2 (s1.le (by omega)) (t1.le (by omega))
  rw[s4 rfl,t4 rfl];rw[show zv a1 a2*((1:Nat):Int)-zv b1 b2*((1:Nat):Int)=zv a1 a2-zv b1 b2 by omega];refine Ev.x N.JE rfl rfl ?_;(repeat' ((first|apply F9|apply AE|refine AD (w6) ?_|refine AD (z7) ?_|refine AD (hC _ _) ?_)<;>conv=>whnf))
  exact C6 rfl
 ·have bg:=λ q q'=>Q7 N.toa4 a1 false q q' a2 b3 s1.1 t2.1 (by have:=s1.2;have:=t2.2;omega)
  have y8:=λ q q'=>Q7 N.toa4 b1 false q q' b2 a3 t1.1 s2.1 (by have:=t1.2;have:=s2.2;omega)
  have xq:=SW N.toa4 a3;have me:=SW N.toa4 b3;have g1:Sm (k+k) (dg (zv a1 a2*zv false b3).natAbs):=RW s1 t2;have g2:Sm (k+k) (dg (zv b1 b2*zv false a3).natAbs):=RW t1 s2;have hC:=λ q q'=>nY N (decide (zv a1 a2*zv false b3<0)) (decide (zv b1 b2*zv false a3<0)) q q' _ _ (g1.le (by omega)) (g2.le (by omega))
  rw[ES,ES]at hC;rw[<-D9 b3,<-D9 a3];generalize zv a1 a2*zv false b3=x at *;generalize zv b1 b2*zv false a3=y at *;refine Ev.x N.JE rfl rfl ?_;cases w1<;>cases w2
  ·(repeat' ((first|apply F9|apply QM|apply AE|refine AD (w6) ?_|refine AD (z7) ?_|refine AD (xq) ?_|refine AD (me) ?_|refine AD (bg _ _) ?_|refine AD (y8 _ _) ?_|refine AD (hC _ _) ?_)<;>conv=>whnf))
   exact C6 rfl
  ·(repeat' ((first|apply F9|apply QM|apply AE|refine AD (w6) ?_|refine AD (z7) ?_|refine AD (xq) ?_|refine AD (me) ?_|refine AD (bg _ _) ?_|refine AD (y8 _ _) ?_|refine AD (hC _ _) ?_)<;>conv=>whnf))
   exact C6 rfl
  ·(repeat' ((first|apply F9|apply QM|apply AE|refine AD (w6) ?_|refine AD (z7) ?_|refine AD (xq) ?_|refine AD (me) ?_|refine AD (bg _ _) ?_|refine AD (y8 _ _) ?_|refine AD (hC _ _) ?_)<;>conv=>whnf))
   exact C6 rfl
  ·exact absurd ⟨rfl,rfl⟩ hw
theorem Adb (N:z8 L) {x y:Rat} {k l:Nat} (hx:Bt k x) (hy:Bt l y) (hk:k<2199023255552) (hl:l<2199023255552):Ev L 198 [.agg (eQ x),.agg (eQ y)] (.int .i64 (n6 (x-y).num)):=by
 have:=oS N 68719476736 (by omega) (decide (x.num<0)) (decide (y.num<0)) _ _ _ _ (hx.sm hk).1 (hx.sm hk).2 (hy.sm hl).1 (hy.sm hl).2
 rw[EG,EG]at this;exact this
end Go.b8
namespace Go.b8
open F
attribute [local irreducible] AA AF AQ AC CI AW A5 A9 B4 B3 CE DE BX A3 BW CD AB A4 AJ pw BV BN CS CR C1 CY CT BL DD
set_option maxHeartbeats 4000000
variable {L:Lib}
structure AM where
 n:Bool
 m:List Nat
 d:List Nat
abbrev eW (w:AM):List AV:=rQ false false w.n w.m w.d
def AM.v (w:AM):Rat:=qv w.n w.m w.d
def AM.Sz (k:Nat) (w:AM):Prop:=Sm k w.m/\Sm k w.d
def GU (x:Rat):AM:=⟨decide (x.num<0),dg x.num.natAbs,dg x.den⟩
theorem KB (x:Rat):(GU x).v=x:=EG x
theorem uX {k:Nat} {l:List Nat} (h:Sm k l):val l<=2^(32*k):=by
 have:=h.val
 rw[show 4294967296=2^32 from rfl,<-Nat.pow_mul]at this;omega
theorem AM.bt {w:AM} {k:Nat} (h:w.Sz k):Bt (32*k) w.v:=by
 unfold AM.v qv;refine Bt.mk ?_ (uX h.2);rw[EM];exact uX h.1
section program
theorem Zk (N:a4 L) {w:AM} {k:Nat} (h:w.Sz k) (hk:k<=68719476736):Ev L 95 [.agg (eW w)] (.agg (eQ w.v)):=YB N w.n false false w.m w.d (h.1.le (by omega)) (h.2.le (by omega))
theorem cY (N:a4 L) {w:AM} {k:Nat} (h:w.Sz k) (hk:k<=68719476736):Ev L 97 [.agg (eW w)] (.int .i64 (n6 w.v.num)):=oT N w.n false false w.m w.d (h.1.le (by omega)) (h.2.le (by omega))
theorem cL (N:a4 L) {w:AM} {y:Rat} {k l:Nat} (h:w.Sz k) (hy:Bt l y) (hk:k<=68719476736) (hl:l<2199023255552):Ev L 99 [.agg (eW w),.agg (eQ y)] (.agg (eQ (w.v*y))):=by
 have:=YA N 68719476736 (by omega) w.n (decide (y.num<0)) false false false false w.m w.d _ _ (h.1.le hk) (h.2.le hk) (hy.fi hl).1 (hy.fi hl).2
 rw[EG]at this;exact this
theorem oD (N:a4 L) {w:AM} {x:Rat} {k l:Nat} (hx:Bt l x) (h:w.Sz k) (hl:l<2199023255552) (hk:k<=68719476736):Ev L 99 [.agg (eQ x),.agg (eW w)] (.agg (eQ (x*w.v))):=by
 have:=YA N 68719476736 (by omega) (decide (x.num<0)) w.n false false false false _ _ w.m w.d (hx.fi hl).1 (hx.fi hl).2 (h.1.le hk) (h.2.le hk)
 rw[EG]at this;exact this
end program
section reference
theorem cZ (N:a5 L) {w:AM} {k:Nat} (h:w.Sz k) (hk:k<=68719476736):Ev L 123 [.agg (eW w)] (.agg (eQ w.v)):=oR N w.n false w.m w.d (h.1.le (by omega)) (h.2.le (by omega))
theorem Adw (N:a5 L) {w:AM} {y:Rat} {k l:Nat} (h:w.Sz k) (hy:Bt l y) (hk:k<=68719476736) (hl:l<2199023255552):Ev L 128 [.agg (eW w),.agg (eQ y)] (.agg (eQ (w.v*y))):=by
 have:=cU (q1:=false) (q3:=false) N 68719476736 (by omega) w.n (decide (y.num<0)) false false w.m w.d _ _ (h.1.le hk) (h.2.le hk) (hy.fi hl).1 (hy.fi hl).2
 rw[EG]at this;exact this
theorem UW (N:a5 L) {w u:AM} {k l:Nat} (h:w.Sz k) (g:u.Sz l) (hk:k<=68719476736) (hl:l<=68719476736):Ev L 128 [.agg (eW w),.agg (eW u)] (.agg (eQ (w.v*u.v))) :=
 cU N 68719476736 (by omega) w.n u.n false false w.m w.d u.m u.d (h.1.le hk) (h.2.le hk) (g.1.le hl) (g.2.le hl)
theorem X7 (N:a5 L) {w u:AM} {k l:Nat} (h:w.Sz k) (g:u.Sz l) (hk:k<=68719476736) (hl:l<=68719476736):Ev L 126 [.agg (eW w),.agg (eW u)] (.agg (eQ (w.v+u.v))) :=
 oQ N 68719476736 (by omega) w.n u.n false false w.m w.d u.m u.d (h.1.le hk) (h.2.le hk) (g.1.le hl) (g.2.le hl)
theorem Add (N:a5 L) {w u:AM} {k l:Nat} (h:w.Sz k) (g:u.Sz l) (hk:k<=68719476736) (hl:l<=68719476736):Ev L 127 [.agg (eW w),.agg (eW u)] (.int .i64 (n6 (w.v-u.v).num)) :=
 AdU N 68719476736 (by omega) w.n u.n false false w.m w.d u.m u.d (h.1.le hk) (h.2.le hk) (g.1.le hl) (g.2.le hl)
theorem oX (N:e7 L) {w:AM} {k:Nat} (h:w.Sz k) (hk:k<=68719476736):Ev L 155 [.agg (eW w)] (.int .i64 (n6 w.v.num)):=by
 obtain ⟨n',m',d',hp,s1,s2,s3,s4⟩:=KS N.toa5 w.n false w.m w.d 274877906943 (by omega) (h.1.le (by omega)) (h.2.le (by omega));have hS:=λ q=>SX N.toa5 n' q m' (s1.le (by omega))
 have hz:n6 (zv n' m')=n6 w.v.num:=by
  rw[AM.v,s4];exact (eU s3).symm
 rw[hz]at hS;refine Ev.x N.JK rfl rfl ?_;(repeat' ((first|apply QN|apply AE|refine AD (hp) ?_|refine AD (hS _) ?_)<;>conv=>whnf))
 exact C6 rfl
end reference
end Go.b8

namespace Go.b8
open F
attribute [local irreducible] AA AF AQ AC CI AW A5 A9 B4 B3 CE DE BX A3 BW CD AB A4 AJ pw BV BN CS CR C1 CY CT BL DD
variable {L:Lib}
set_option maxHeartbeats 4000000
theorem X6 (N:e7 L) {w:AM} (h:w.Sz 68719476736):Ev L 158 [.agg (eW w),.agg (eW w)] (.bool true):=by
 have h1:=λ q1 q2=>cQ N q1 q2 w.d (by have:=h.2.2;omega)
 have h2:=λ q1 q2=>oP N w.n q1 q2 w.m (by have:=h.1.2;omega)
 refine Ev.x N.JJ rfl rfl ?_;(repeat' ((first|apply AE|refine AD (h1 _ _) ?_|refine AD (h2 _ _) ?_)<;>conv=>whnf))
 exact DM rfl
end Go.b8

namespace Go.b8
open F
attribute [local irreducible] AA AF AQ AC CI AW A5 A9 B4 B3 CE DE BX A3 BW CD AB A4 AJ pw BV BN CS CR C1 CY CT BL DD
variable {L:Lib} (n:Nt)
set_option maxHeartbeats 1000000
end Go.b8

namespace Go.b8
open F
attribute [local irreducible] AA AF AQ AC CI AW A5 A9 B4 B3 CE DE BX A3 BW CD AB A4 AJ pw BV BN CS CR C1 CY CT BL DD
variable {L:Lib}
set_option maxHeartbeats 16000000
theorem Aec {α:Type} (a b:α) {t m:Nat} (_:t<=m) (h:t<m):(List.replicate t a++List.replicate (m-t) b).set t a=List.replicate (t+1) a++List.replicate (m-(t+1)) b:=by
 obtain ⟨k,hk⟩ : ∃ k,m-t=k+1:=⟨m-t-1,by omega⟩;rw[List.set_append_right _ _ (by simp),hk,List.length_replicate,Nat.sub_self,List.replicate_succ,List.set_cons_zero,show m-(t+1)=k by omega,List.replicate_succ',List.append_assoc];rfl
def fz {α:Type} (z:α) (l:List α) (m:Nat):List α:=l++List.replicate (m-l.length) z
theorem dI {α:Type} {z:α} {l:List α} {m:Nat} (h:l.length<=m):(fz z l m).length=m:=by simp [fz];omega
theorem dJ {α:Type} {z x:α} {l:List α} {m:Nat} (h:l.length<m):(fz z l m).set l.length x=fz z (l++[x]) m:=by
 unfold fz;obtain ⟨k,hk⟩ : ∃ k,m-l.length=k+1:=⟨m-l.length-1,by omega⟩;rw[List.set_append_right _ _ (by simp),hk,Nat.sub_self,List.replicate_succ,List.set_cons_zero,List.length_append,List.length_singleton,show m-(l.length+1)=k by omega,List.append_assoc];rfl
theorem Aed {α:Type} {z:α} {l:List α} {m:Nat} (h:l.length<m):(fz z l m)[l.length]? = some z:=by
 unfold fz;rw[List.getElem?_append_right (by omega),Nat.sub_self,List.getElem?_replicate,if_pos (by omega)]
theorem dH {α:Type} {z:α} {l:List α} {m:Nat} (h:l.length=m):fz z l m=l:=by simp [fz,h]
theorem FU {α:Type} {l:List α} {i:Nat} {x:α} (h:l[i]? = some x):l.take (i+1)=l.take i++[x]:=by
 rw[List.take_add_one,h];rfl
def ot (P:List (List Rat)) (n j i:Nat):List (List (Option Rat)):=(List.range P.length).map λ r=>C0 ((P.getD r []).take (if r<i then j+1 else j)) n
theorem VM (P:List (List Rat)) (n j i:Nat):(ot P n j i).length=P.length:=by simp [ot]
theorem Aeg {P:List (List Rat)} {i:Nat} {row:List Rat} (h:P[i]? = some row):P.getD i []=row:=by rw[List.getD_eq_getElem?_getD,h];rfl
theorem Y9 {P:List (List Rat)} {n j i r:Nat} {row:List Rat} (h:P[r]? = some row):(ot P n j i)[r]? = some (C0 (row.take (if r<i then j+1 else j)) n):=by
 have h1:=(zS h).1;simp only[ot,List.getElem?_map,List.getElem?_range h1,Option.map_some,Aeg h]
theorem Af6 {P:List (List Rat)} {n j i:Nat} {row:List Rat} (h:P[i]? = some row):(ot P n j i).set i (C0 (row.take (j+1)) n)=ot P n j (i+1):=by
 refine List.ext_getElem? λ r => ?_
 rw[List.getElem?_set,VM];cases e:P[r]? with
 | none =>
  have h1:=List.getElem?_eq_none_iff.1 e;have h2:=(zS h).1;rw[List.getElem?_eq_none (by rw[VM];exact h1),if_neg (by omega),List.getElem?_eq_none (by rw[VM];exact h1)]
 | some Rn =>
  rw[Y9 e,Y9 e];by_cases hi:i=r
  ·subst hi
   obtain rfl:=Option.some.inj (h.symm.trans e);have h2:=(zS h).1;rw[if_pos rfl,if_pos h2,if_pos (by omega)]
  ·rw[if_neg hi]
   by_cases h3:r<i
   ·rw[if_pos h3,if_pos (by omega)]
   ·rw[if_neg h3,if_neg (by omega)]
theorem Af5 (P:List (List Rat)) (n j:Nat):ot P n j P.length=ot P n (j+1) 0:=by
 refine List.map_congr_left λ r hr => ?_
 rw[if_pos (List.mem_range.1 hr),if_neg (by omega)]
theorem Af7 (P:List (List Rat)) (n:Nat):ot P n 0 0=List.replicate P.length (C0 [] n):=by
 refine List.ext_getElem? λ r => ?_
 simp only[ot,List.getElem?_map,List.getElem?_replicate];by_cases h:r<P.length
 ·rw[List.getElem?_range h,if_pos h];simp
 ·rw[List.getElem?_eq_none (by simp;omega),if_neg h];rfl
theorem Af4 {P:List (List Rat)} {n:Nat} (h : ∀ r∈P,r.length=n):BK 3 eO (ot P n n 0)=BK 3 eQ P:=by
 refine List.ext_getElem? λ r => ?_
 simp only[BK,List.getElem?_map];cases e:P[r]? with
 | none=>rw[List.getElem?_eq_none (by rw[VM];exact List.getElem?_eq_none_iff.1 e)];rfl
 | some row =>
  have hl:=h row (zM e);rw[Y9 e,if_neg (by omega),zT (by omega)];simp only[Option.map_some,JY hl]
end Go.b8

namespace Go.b8
open F
attribute [local irreducible] AA AF AQ AC CI AW A5 A9 B4 B3 CE DE BX A3 BW CD AB A4 AJ pw BV BN CS CR C1 CY CT BL DD
variable {L:Lib}
variable (b a:List Int) (d c:Wd)
variable {b a d c}
set_option maxHeartbeats 4000000
end Go.b8

namespace Go.b8
open F
attribute [local irreducible] AA AF AQ AC CI AW A5 A9 B4 B3 CE DE BX A3 BW CD AB A4 AJ pw BV BN CS CR C1 CY CT BL DD
variable {L:Lib}
set_option maxHeartbeats 8000000
end Go.b8

namespace Go.b8
open F
attribute [local irreducible] AA AF AQ AC CI AW A5 A9 B4 B3 CE DE BX A3 BW CD AB A4 AJ pw BV BN CS CR C1 CY CT BL DD
set_option maxHeartbeats 4000000
variable {L:Lib}
section
variable (n:Nt)
end
end Go.b8

namespace Go.b8
def hQ (S:aK):Nat->Rat
 | 0=>S.d
 | j+1=>A6 S.c (wQ S j)
theorem lR {l:List Rat} : ∀ {n i:Nat},C8 l n<=i->i<n->l.getD i 0=0
 | 0,i,_,h=>by omega
 | n+1,i,h,hi=>by
  rw[C8]at h;split at h
  ·rename_i h0
   by_cases e:i=n
   ·subst e;exact h0
   ·exact lR h (by omega)
  ·omega
theorem Ahz (l:List Rat) (i:Nat):(CP l).getD i 0=l.getD i 0:=by
 by_cases h:i<C8 l l.length
 ·have:=OY l l.length
  rw[CP,List.getD_eq_getElem?_getD,List.getElem?_take_of_lt h,List.getD_eq_getElem?_getD]
 ·rw[pN (by rw[R4];omega)]
  by_cases h2:i<l.length
  ·exact (lR (by omega) h2).symm
  ·exact (pN (by omega)).symm
theorem AhA {r:List Rat} (h:CP r=r) (hn:r.length≠0):r.getD (r.length-1) 0≠0:=by
 have hl:=R4 r;rw[h]at hl;obtain ⟨n,oh⟩ : ∃ n,r.length=n+1:=⟨r.length-1,by omega⟩;rw[oh,C8]at hl;rw[oh,Nat.add_sub_cancel];intro h0;rw[if_pos h0]at hl;have:=OY r n
 omega
theorem vZ (h:Pt->Pt) (f:Pt->Rat) : ∀ g:List Pt,BO (g.map h) f=BO g λ p=>f (h p)
 | []=>rfl
 | p::g=>by rw[List.map_cons,GL,GL,vZ h f g]
def VU (sx sy sw:Rat) (p:Pt):Pt:=⟨p.x*sx,p.y*sy,p.w*sw⟩
def GI (s:Rat):List Rat->Rat->List Rat
 | [],_=>[]
 | z::c,f=>z*f::GI s c (f*s)
theorem tK (s:Rat) : ∀ (c:List Rat) (f:Rat),(GI s c f).length=c.length
 | [],_=>rfl
 | _::c,f=>by rw[GI,List.length_cons,tK s c,List.length_cons]
theorem tJ (s x:Rat) : ∀ (c:List Rat) (f:Rat),BF (GI s c f) x=f*BF c (x*s)
 | [],f=>by simp only[GI,BF];grind
 | z::c,f=>by rw[GI,BF,BF,tJ s x c];grind
theorem sD (a b:Rat) : ∀ n:Nat,(a*b)^n=a^n*b^n
 | 0=>by rw[Rat.pow_zero,Rat.pow_zero,Rat.pow_zero];grind
 | n+1=>by rw[Rat.pow_succ,Rat.pow_succ,Rat.pow_succ,sD a b n];grind
theorem Af2 {g:List Pt} {n:Nat} {c:List Rat} {sx sy sw:Rat} (hx:sx≠0) (hy:sy≠0) (hw:sw≠0) (h:KF (g.map (VU sx sy sw)) n c):KF g n (GI sx c (1/sy)):=λ k hk=>by
 have h1:=h k hk;rw[vZ]at h1;have hi:=Rat.div_mul_cancel hy (a:=1);generalize 1/sy=u at *;rw[PJ (h:=λ p=>(sw*sx^k*sy)*(p.w*p.x^k*(BF (GI sx c u) p.x-p.y))) λ p _=>by
  simp only[VU,tJ,sD];generalize BF c (p.x*sx)=e;have:e=sy*(u*e):=by rw[<-Rat.mul_assoc,Rat.mul_comm sy,hi,Rat.one_mul]
  grind,TQ]at h1
 rcases Rat.mul_eq_zero.1 h1 with h2|h2
 ·exfalso
  rcases Rat.mul_eq_zero.1 h2 with h3|h3
  ·rcases Rat.mul_eq_zero.1 h3 with h4|h4
   ·exact hw h4
   ·exact fU hx k h4
  ·exact hy h3
 ·exact h2
def aj (a b:List Rat):List Rat:=List.zipWith (· - ·) a b
theorem nN : ∀ (a b:List Rat) (x:Rat),a.length=b.length->BF (aj a b) x=BF a x-BF b x
 | [],[],x,_=>by simp only[aj,List.zipWith_nil_right,BF];grind
 | u::a,v::b,x,h=>by
  have ih:=nN a b x (by simpa using h);simp only[aj]at ih;simp only[aj,List.zipWith_cons_cons,BF,ih];grind
theorem vV : ∀ (a b:List Rat),a.length=b.length->(∀ z∈aj a b,z=0)->a=b
 | [],[],_,_=>rfl
 | u::a,v::b,h,hz=>by
  simp only[aj,List.zipWith_cons_cons,List.mem_cons]at hz;have h1:=hz (u-v) (Or.inl rfl);have h2:=vV a b (by simpa using h) λ z nu=>hz z (Or.inr nu)
  rw[h2,show u=v by grind]
theorem Af3 {g:List Pt} {n:Nat} {a b:List Rat} (hg:SD g) (hn:n<=g.length) (ha:a.length=n) (hb:b.length=n) (h1:KF g n a) (h2:KF g n b):a=b:=by
 have hl:(aj a b).length=n:=by simp only[aj,List.length_zipWith];omega
 refine vV a b (by omega) (pU hg (c:=aj a b) (by omega) ?_);have h3 : ∀ k,k<n->BO g (λ p=>p.w*p.x^k*BF (aj a b) p.x)=0:=λ k hk=>by
  rw[PJ (h:=λ p=>p.w*p.x^k*(BF a p.x-p.y)+(-1)*(p.w*p.x^k*(BF b p.x-p.y))) λ p _=>by
   rw[nN a b _ (by omega)];grind,V4,TQ,h1 k hk,h2 k hk]
  grind
 have h4:=fS (g:=g) (λ p=>BF (aj a b) p.x) (aj a b) 0 n h3 (by omega);rw[<-h4];exact PJ λ p _=>by rw[Rat.pow_zero];grind
theorem nK : ∀ (a b:List Rat) (x:Rat),(∀ i,a.getD i 0=b.getD i 0)->BF a x=BF b x
 | [],b,x,h=>by
  rw[cH (p:=b) λ z hz=>by
   obtain ⟨i,hi⟩:=List.getElem?_of_mem hz;have:=h i
   rw[List.getD_eq_getElem?_getD,List.getD_eq_getElem?_getD,hi]at this;simpa using this.symm]
  rfl
 | u::a,[],x,h=>by
  rw[cH (p:=u::a) λ z hz=>by
   obtain ⟨i,hi⟩:=List.getElem?_of_mem hz;have:=h i
   rw[List.getD_eq_getElem?_getD,hi]at this;simpa using this]
  rfl
 | u::a,v::b,x,h=>by
  have h0:u=v:=by simpa using h 0
  rw[BF,BF,h0,nK a b x λ i=>by simpa using h (i+1)]
theorem Ya (p:List Rat) (x:Rat):BF (CP p) x=BF p x:=nK _ _ x (Ahz p)
def GZ (x:Rat):Rat:=if x.num<0 then -x else x
theorem kE {x:Rat} (h:x≠0):GZ x≠0:=by
 unfold GZ;split
 ·intro e;exact h (by grind)
 ·exact h
theorem Bt.Eb {k:Nat} {x:Rat} (h:Bt k x):Bt k (GZ x):=by
 unfold GZ;split
 ·exact h.yl
 ·exact h
def N8 (a b:Rat):Rat:=if a=0 then GZ b else if b=0 then a else GZ (a/(((a/b).num:Int):Rat))
theorem sM {x:Rat} (h:x≠0):((x.num:Int):Rat)≠0:=by
 intro e;have:((x.num:Int):Rat)=((0:Int):Rat):=e
 exact h (Rat.num_eq_zero.1 (Rat.intCast_inj.1 this))
theorem bS {a b:Rat} (ha:a≠0) (hb:b≠0):a/b≠0:=by
 intro e;have:=Rat.div_mul_cancel hb (a:=a)
 rw[e,Rat.zero_mul]at this;exact ha this.symm
theorem Wk {a b:Rat} (h:a≠0\/b≠0):N8 a b≠0:=by
 unfold N8;by_cases ha:a=0
 ·rw[if_pos ha]
  exact kE (h.resolve_left λ x=>x ha)
 ·rw[if_neg ha]
  by_cases hb:b=0
  ·rw[if_pos hb];exact ha
  ·rw[if_neg hb]
   exact kE (bS ha (sM (bS ha hb)))
theorem Bt.ym {k:Nat} {x:Rat} (h:Bt k x):Bt k ((x.num:Int):Rat):=Bt.ofInt h.1
theorem Bt.Jf {k:Nat} {x:Rat} (h:Bt k x):Bt k (((x.den:Nat):Int):Rat):=Bt.ofInt (by simpa using h.2)
theorem Wj {k l:Nat} {a b:Rat} (ha:Bt k a) (hb:Bt l b):Bt (2*k+l) (N8 a b):=by
 unfold N8;split
 ·exact hb.Eb.le (by omega)
 ·split
  ·exact ha.le (by omega)
  ·exact ((ha.ik (ha.ik hb).ym).Eb).le (by omega)
def E1 (p:List Rat):Rat:=p.foldl N8 0
theorem rJ (p:List Rat) (x:Rat):E1 (p++[x])=N8 (E1 p) x:=by rw[E1,List.foldl_append];rfl
theorem rK {p:List Rat} {i:Nat} {x:Rat} (h:p[i]? = some x):E1 (p.take (i+1))=N8 (E1 (p.take i)) x:=by
 rw[List.take_add_one,h];exact rJ _ _
theorem YM {k:Nat} {p:List Rat} (h:Bs k p) : ∀ i,Bt ((2^i-1)*k) (E1 (p.take i))
 | 0=>by rw[List.take_zero];exact Bt.zero _
 | i+1=>by
  have ih:=YM h i;have h1:1<=2^i:=Nat.one_le_two_pow;have e:(2^(i+1)-1)*k=2*((2^i-1)*k)+k:=by
   rw[Nat.pow_succ];obtain ⟨c,hc⟩ : ∃ c,2^i=c+1:=⟨2^i-1,by omega⟩;rw[hc,show (c+1)*2-1=2*c+1 by omega,Nat.add_sub_cancel,Nat.add_mul,Nat.one_mul,Nat.mul_assoc]
  rw[e];cases hx:p[i]? with
  | none =>
   rw[List.take_add_one,hx];simp only[Option.toList_none,List.append_nil];exact ih.le (by omega)
  | some x =>
   rw[rK hx];exact Wj ih (h.at hx)
theorem Afy {p:List Rat} {x:Rat} (h:x≠0):E1 (p++[x])≠0:=by rw[rJ];exact Wk (Or.inr h)
theorem rL {p:List Rat} (h:CP p=p):p=[]\/E1 p≠0:=by
 by_cases hl:p.length=0
 ·exact Or.inl (List.length_eq_zero_iff.1 hl)
 ·have h1:=AhA h hl
  obtain ⟨n,hn⟩ : ∃ n,p.length=n+1:=⟨p.length-1,by omega⟩;rw[hn,Nat.add_sub_cancel]at h1;obtain ⟨x,hx⟩ : ∃ x,p[n]? = some x:=⟨_,zE (by omega)⟩;rw[List.getD_eq_getElem?_getD,hx]at h1;have e:p=p.take n++[x]:=by
   have:=List.take_add_one (l:=p) (i:=n)
   rw[hx,zT (by omega)]at this;exact this
  rw[e];exact Or.inr (Afy h1)
theorem nM (r x:Rat) : ∀ p:List Rat,BF (p.map (· / r)) x=BF p x/r
 | []=>by simp only[List.map_nil,BF,Rat.div_def];grind
 | c::p=>by
  have ih:=nM r x p;simp only[Rat.div_def]at ih;simp only[List.map_cons,BF,Rat.div_def,ih];grind
theorem nJ {w:List Rat} {i:Nat} {c:Rat} (x:Rat) (h:w[i]? = some c):BF (w.drop i) x=c+x*BF (w.drop (i+1)) x:=by
 obtain ⟨hl,rfl⟩:=zS h;rw[List.drop_eq_getElem_cons hl,BF]
theorem Afz {p:List Rat} (h:CP p=p) (x:Rat):E1 p*BF (p.map (· / E1 p)) x=BF p x:=by
 rcases rL h with rfl|h
 ·simp only[List.map_nil,BF];grind
 ·rw[nM,Rat.mul_comm,Rat.div_mul_cancel h]
end Go.b8

namespace Go.b8
theorem Wh.of_dvd {k S T:Nat} {x:Rat} (hT:1<=T) (h:Wh k (((S*T:Nat):Rat)*x)) (hz : ∃ z:Int,x*(S:Rat)=(z:Rat)):Wh k (x*(S:Rat)):=by
 obtain ⟨z,hz⟩:=hz;obtain ⟨u,hu,hb⟩:=h;refine ⟨z,hz,?_⟩;have e:((z*(T:Int):Int):Rat)=(u:Rat):=by
  rw[Rat.intCast_mul,<-hz,<-hu,Rat.natCast_mul,Rat.intCast_natCast];grind
 have e2:=Rat.intCast_inj.1 e;have:z.natAbs*T=u.natAbs:=by rw[<-e2,Int.natAbs_mul,Int.natAbs_natCast]
 have h2:z.natAbs<=z.natAbs*T:=Nat.le_mul_of_pos_right _ (by omega);omega
theorem ZP {M k m:Nat} {l:List Rat} (hM:1<=M) (hm:M<=2^m) (h : ∀ x∈l,Wh k ((M:Rat)*x)):Wh m (BI l) /\ ∀ x∈l,Wh k (x*BI l):=by
 obtain ⟨S,e,⟨T,hT⟩,hz⟩:=uM (M:=M) (l:=l) λ x hx=>by
  obtain ⟨z,hz,_⟩:=h x hx;exact ⟨z,hz⟩
 have Kc:1<=T:=by
  rcases Nat.eq_zero_or_pos T with h0|h0
  ·rw[h0]at hT;omega
  ·exact h0
 refine ⟨⟨(S:Int),by rw[e,Rat.intCast_natCast],?_⟩,λ x hx => ?_⟩
 ·rw[Int.natAbs_natCast]
  have:S<=S*T:=Nat.le_mul_of_pos_right _ (by omega)
  omega
 ·have h1:=h x hx
  rw[hT]at h1;rw[e];exact Wh.of_dvd Kc h1 (by rw[<-e];exact hz x hx)
theorem AgT {x:Rat} (h : ∃ z:Int,x=(z:Rat)):NP 1 x=1:=by
 obtain ⟨z,rfl⟩:=h;rw[NP,Rat.one_mul,Rat.one_mul,Rat.den_intCast];rfl
theorem gM : ∀ {l:List Rat},(∀ x∈l,∃ z:Int,x=(z:Rat))->BI l=1
 | [],_=>rfl
 | x::l,h=>by
  have:=gM (l:=l) λ y hy=>h y (List.mem_cons_of_mem _ hy)
  rw[BI]at this;rw[BI,List.foldl_cons,AgT (h x List.mem_cons_self),this]
theorem AhK {m:List (List Rat)} (h : ∀ r∈m,∀ x∈r,∃ z:Int,x=(z:Rat)):whole m=m:=by
 rw[whole];refine (List.map_congr_left λ r hr => ?_).trans (List.map_id m);rw[gM (h r hr)];exact (List.map_congr_left λ x _=>Rat.mul_one x).trans (List.map_id r)
theorem RZ {k:Nat} {f:Pt->Rat} : ∀ {g:List Pt},(∀ p∈g,Wh k (f p))->Wh (k+g.length) (BO g f)
 | [],_=>Wh.zero _
 | p::g,h=>by
  rw[GL,List.length_cons,<-Nat.add_assoc];exact ((h p List.mem_cons_self).le (by omega)).add (RZ λ q hq=>h q (List.mem_cons_of_mem _ hq))
theorem ZZ {k:Nat} {f:Pt->Rat} : ∀ {g:List Pt},(∀ p∈g,Bt k (f p))->Bt (g.length*(k+1)) (BO g f)
 | [],_=>Bt.zero _
 | p::g,h=>by
  rw[GL,List.length_cons,Nat.add_mul,Nat.one_mul];exact ((h p List.mem_cons_self).add (ZZ λ q hq=>h q (List.mem_cons_of_mem _ hq))).le (by omega)
theorem US {k j:Nat} {x:Rat} (hx:Bt j x) : ∀ {p:List Rat},Bs k p->Bt (p.length*(k+j+1)) (BF p x)
 | [],_=>Bt.zero _
 | c::p,h=>by
  rw[BF,List.length_cons,Nat.add_mul,Nat.one_mul];exact ((h c List.mem_cons_self).add (hx.mul (US hx λ z hz=>h z (List.mem_cons_of_mem _ hz)))).le (by omega)
structure IW (M ky:Nat) (g:List Pt):Prop where
 len:1<=g.length/\g.length<=12
 lt:(g.map (·.x)).Pairwise (· < ·)
 pos : ∀ p∈g,0<p.w
 wx : ∀ p∈g,Wh 6 (((12:Nat):Rat)*p.x)
 ww : ∀ p∈g,Wh 7 (((12:Nat):Rat)*p.w)
 wy : ∀ p∈g,Wh ky ((M:Rat)*p.y)
theorem Bt.ja {M k m:Nat} {x:Rat} (hM:1<=M) (hm:M<=2^m) (h:Wh k ((M:Rat)*x)):Bt (k+m) x:=by
 have h0:(M:Rat)≠0:=λ e=>by
  have:(M:Rat)=((0:Nat):Rat):=e
  have:=Rat.natCast_inj.1 this
  omega
 have e:x=((M:Rat)*x)/(M:Rat):=by
  have:=Rat.mul_inv_cancel (M:Rat) h0
  rw[Rat.div_def];grind
 rw[e];exact h.bt.ik (by
  have:=Bt.ofInt (k:=m) (z:=(M:Int)) (by simpa using hm)
  rwa [Rat.intCast_natCast]at this)
section
variable {M ky:Nat} {g:List Pt}
theorem IW.bx (h:IW M ky g) {p:Pt} (hp:p∈g):Bt 10 p.x:=Bt.ja (m:=4) (by omega) (by decide) (h.wx p hp)
theorem IW.bw (h:IW M ky g) {p:Pt} (hp:p∈g):Bt 11 p.w:=Bt.ja (m:=4) (by omega) (by decide) (h.ww p hp)
def E4 (g:List Pt):List Pt:=g.map (VU (BI (g.map (·.x))) (BI (g.map (·.y))) (BI (g.map (·.w))))
structure NZ (kx kw ky:Nat) (g:List Pt):Prop where
 ok:SD g
 wx : ∀ p∈g,Wh kx p.x
 ww : ∀ p∈g,Wh kw p.w
 wy : ∀ p∈g,Wh ky p.y
abbrev zD (ky:Nat) (g:List Pt):Prop:=NZ 6 7 ky g
theorem IW.scl (h:IW M ky g) (hM:1<=M) {m:Nat} (hm:M<=2^m):Wh 4 (BI (g.map (·.x)))/\Wh m (BI (g.map (·.y)))/\Wh 4 (BI (g.map (·.w)))/\0<BI (g.map (·.x))/\0<BI (g.map (·.w))/\zD ky (E4 g):=by
 obtain ⟨a1,a2⟩:=ZP (M:=12) (m:=4) (k:=6) (l:=g.map (·.x)) (by omega) (by decide) (λ x hx=>by
  obtain ⟨p,hp,rfl⟩:=List.mem_map.1 hx;exact h.wx p hp)
 obtain ⟨b1,b2⟩:=ZP (M:=M) (m:=m) (k:=ky) (l:=g.map (·.y)) hM hm (λ x hx=>by
  obtain ⟨p,hp,rfl⟩:=List.mem_map.1 hx;exact h.wy p hp)
 obtain ⟨c1,c2⟩:=ZP (M:=12) (m:=4) (k:=7) (l:=g.map (·.w)) (by omega) (by decide) (λ x hx=>by
  obtain ⟨p,hp,rfl⟩:=List.mem_map.1 hx;exact h.ww p hp)
 have pos : ∀ (l:List Rat) (N:Nat),1<=N->(∀ x∈l,∃ z:Int,(N:Rat)*x=(z:Rat))->0<BI l:=λ l N hN hz=>by
  obtain ⟨S,e,⟨T,hT⟩,_⟩:=uM hz;rw[e];have:0<S:=by
   rcases Nat.eq_zero_or_pos S with h0|h0
   ·rw[h0]at hT;omega
   ·exact h0
  exact Rat.natCast_pos.2 this
 have px:0<BI (g.map (·.x)):=pos _ 12 (by omega) (λ x hx=>by
  obtain ⟨p,hp,rfl⟩:=List.mem_map.1 hx;obtain ⟨z,hz,_⟩:=h.wx p hp;exact ⟨z,hz⟩)
 have pw:0<BI (g.map (·.w)):=pos _ 12 (by omega) (λ x hx=>by
  obtain ⟨p,hp,rfl⟩:=List.mem_map.1 hx;obtain ⟨z,hz,_⟩:=h.ww p hp;exact ⟨z,hz⟩)
 refine ⟨a1,b1,c1,px,pw,⟨?_,λ p hp => ?_⟩,λ p hp => ?_,λ p hp => ?_,λ p hp => ?_⟩
 ·rw[E4,List.map_map,List.pairwise_map]
  have h1:=h.lt;rw[List.pairwise_map]at h1;refine h1.imp λ g9 e => ?_
  simp only[Function.comp,VU]at e;have:=fA (λ h0=>by rw[h0]at px;exact absurd px (Rat.lt_irrefl)) e
  rw[this]at g9;exact absurd g9 (Rat.lt_irrefl)
 ·obtain ⟨q,hq,rfl⟩:=List.mem_map.1 hp
  exact Rat.mul_pos (h.pos q hq) pw
 ·obtain ⟨q,hq,rfl⟩:=List.mem_map.1 hp
  exact a2 _ (List.mem_map.2 ⟨q,hq,rfl⟩)
 ·obtain ⟨q,hq,rfl⟩:=List.mem_map.1 hp
  exact c2 _ (List.mem_map.2 ⟨q,hq,rfl⟩)
 ·obtain ⟨q,hq,rfl⟩:=List.mem_map.1 hp
  exact b2 _ (List.mem_map.2 ⟨q,hq,rfl⟩)
theorem S5 {k n:Nat} (kx:Nat) (h:k<=n):k*kx<=n*kx:=zR kx h
theorem NZ.bz {kx kw:Nat} (h:NZ kx kw ky g) (k:Nat):Wh (kw+k*kx+g.length) (bz g k):=RZ λ p hp=>(h.ww p hp).mul ((h.wx p hp).pow k)
theorem NZ.rhs {kx kw:Nat} (h:NZ kx kw ky g) (k:Nat):Wh (kw+k*kx+ky+g.length) (rhs g k):=RZ λ p hp=>((h.ww p hp).mul ((h.wx p hp).pow k)).mul (h.wy p hp)
theorem Aeh {kx kw:Nat} (h:NZ kx kw ky g) (hl:g.length<=12) {n:Nat} (hn:n<=6) {k:Nat} (hk:kw+10*kx+12<=k) : ∀ r∈GR g n,∀ x∈r,Wh k x:=λ r hr x hx=>by
 obtain ⟨i,hi,rfl⟩:=List.mem_map.1 hr;obtain ⟨j,hj,rfl⟩:=List.mem_map.1 hx;have:=List.mem_range.1 hi
 have:=List.mem_range.1 hj
 have:=S5 kx (show i+j<=10 by omega)
 exact (h.bz (i+j)).le (by omega)
theorem AgB {kx kw:Nat} (h:NZ kx kw ky g) (hl:g.length<=12) {n:Nat} (hn:n<=6) {k:Nat} (hk:kw+5*kx+12+ky<=k) : ∀ x∈GT g n,Wh k x:=λ x hx=>by
 obtain ⟨i,hi,rfl⟩:=List.mem_map.1 hx;have:=List.mem_range.1 hi
 have:=S5 kx (show i<=5 by omega)
 exact (h.rhs i).le (by omega)
end
end Go.b8

namespace Go.b8
theorem IQ {M k:Nat} {a b:Int} {T:Int} (hb:1<=b) (hT:b*T=(M:Int)) (ha:(T*a).natAbs<=2^k):Wh k ((M:Rat)*Rat.divInt a b):=by
 refine ⟨T*a,?_,ha⟩;have h0:(b:Rat)≠0:=λ e=>by
  have:(b:Rat)=((0:Int):Rat):=e
  have:=Rat.intCast_inj.1 this
  omega
 have h1:=Rat.div_mul_cancel h0 (a:=(a:Rat));rw[Rat.divInt_eq_div,show ((M:Nat):Rat)=((b*T:Int):Rat) by rw[hT,Rat.intCast_natCast],Rat.intCast_mul,Rat.intCast_mul];generalize (a:Rat)/(b:Rat)=q at *;rw[<-h1];grind
theorem AhJ {a b:Int} (ha : -12<=a/\a<=12) (hb:1<=b/\b<=8):Wh 14 (((840:Nat):Rat)*Rat.divInt a b):=by
 have:b=1\/b=2\/b=3\/b=4\/b=5\/b=6\/b=7\/b=8:=by omega
 rcases this with rfl|rfl|rfl|rfl|rfl|rfl|rfl|rfl
 ·exact IQ (T:=840) (by omega) (by decide) (by omega)
 ·exact IQ (T:=420) (by omega) (by decide) (by omega)
 ·exact IQ (T:=280) (by omega) (by decide) (by omega)
 ·exact IQ (T:=210) (by omega) (by decide) (by omega)
 ·exact IQ (T:=168) (by omega) (by decide) (by omega)
 ·exact IQ (T:=140) (by omega) (by decide) (by omega)
 ·exact IQ (T:=120) (by omega) (by decide) (by omega)
 ·exact IQ (T:=105) (by omega) (by decide) (by omega)
theorem AhI {a b:Int} (ha:1<=a/\a<=8) (hb:1<=b/\b<=4):Wh 7 (((12:Nat):Rat)*Rat.divInt a b):=by
 have:b=1\/b=2\/b=3\/b=4:=by omega
 rcases this with rfl|rfl|rfl|rfl
 ·exact IQ (T:=12) (by omega) (by decide) (by omega)
 ·exact IQ (T:=6) (by omega) (by decide) (by omega)
 ·exact IQ (T:=4) (by omega) (by decide) (by omega)
 ·exact IQ (T:=3) (by omega) (by decide) (by omega)
theorem pM {a b:Int} (ha:0<a) (hb:0<b):0<Rat.divInt a b:=by
 rw[Rat.divInt_eq_div,Rat.div_def];exact Rat.mul_pos (Rat.intCast_pos.2 ha) (Rat.inv_pos.2 (Rat.intCast_pos.2 hb))
structure KE (g:List Pt) (i:Nat) (x:Rat):Prop where
 len:g.length=i
 lt:(g.map (·.x)).Pairwise (· < ·)
 nx : ∀ p∈g,p.x<x
 pos : ∀ p∈g,0<p.w
 Ee : ∃ z:Int,((12:Nat):Rat)*x=(z:Rat) /\ -12<=z/\z <= -12+4*i
 wx : ∀ p∈g,Wh 6 (((12:Nat):Rat)*p.x)
 ww : ∀ p∈g,Wh 7 (((12:Nat):Rat)*p.w)
 wy : ∀ p∈g,Wh 14 (((840:Nat):Rat)*p.y)
theorem KE.start:KE [] 0 ((-1:Int):Rat):=⟨rfl,List.Pairwise.nil,λ p hp=>(by cases hp),λ p hp=>(by cases hp),⟨-12,by
 show ((12:Nat):Rat)*((-1:Int):Rat)=((-12:Int):Rat);grind,by omega,by omega⟩,λ p hp=>(by cases hp),λ p hp=>(by cases hp),λ p hp=>(by cases hp)⟩
theorem KE.step {g:List Pt} {i:Nat} {x:Rat} (h:KE g i x) (hi:i<12) {a b c d s:Int} (ha : -12<=a/\a<=12) (hb:1<=b/\b<=8) (hc:1<=c/\c<=8) (hd:1<=d/\d<=4) (hs:1<=s/\s<=4) :
  KE (g++[⟨x,Rat.divInt a b,Rat.divInt c d⟩]) (i+1) (x+Rat.divInt s 12):=by
 obtain ⟨z,hz,z1,z2⟩:=h.Ee;have Dt:=pM (a:=s) (b:=12) (by omega) (by omega);have g9:x<x+Rat.divInt s 12:=by grind
 have mem : ∀ {P:Pt->Prop},(∀ p∈g,P p)->P ⟨x,Rat.divInt a b,Rat.divInt c d⟩ -> ∀ p∈g++[⟨x,Rat.divInt a b,Rat.divInt c d⟩],P p:=λ h1 h2 p hp=>by
  rcases List.mem_append.1 hp with hp|hp
  ·exact h1 p hp
  ·rw[List.mem_singleton.1 hp];exact h2
 refine ⟨by rw[List.length_append,h.len];rfl,?_,mem (λ p hp => ?_) g9,mem h.pos (pM (by omega) (by omega)),⟨z+s,?_,by omega,by omega⟩,mem h.wx ⟨z,hz,?_⟩,mem h.ww (AhI hc hd),mem h.wy (AhJ ha hb)⟩
 ·rw[List.map_append,List.pairwise_append]
  refine ⟨h.lt,by simp,λ u hu v hv => ?_⟩;obtain ⟨p,hp,rfl⟩:=List.mem_map.1 hu;obtain rfl:v=x:=by simpa using hv
  exact h.nx p hp
 ·have:=h.nx p hp;grind
 ·obtain ⟨u,hu,_⟩:=IQ (M:=12) (k:=6) (a:=s) (b:=12) (T:=1) (by omega) (by decide) (by omega)
  have yu:(((12:Nat):Rat))*Rat.divInt s 12=(s:Rat):=by
   have h1:=Rat.div_mul_cancel (show ((12:Int):Rat)≠0 by decide) (a:=(s:Rat));rw[Rat.divInt_eq_div,Rat.mul_comm];exact h1
  rw[Rat.intCast_add,<-hz,<-yu];grind
 ·show z.natAbs<=2^6
  omega
theorem KE.fin {g:List Pt} {i:Nat} {x:Rat} (h:KE g i x) (h1:1<=i/\i<=12):IW 840 14 g:=⟨by rw[h.len];exact h1,h.lt,h.pos,h.wx,h.ww,h.wy⟩
theorem KE.bx {g:List Pt} {i:Nat} {x:Rat} (h:KE g i x) (hi:i<=12):Bt 10 x:=by
 obtain ⟨z,hz,z1,z2⟩:=h.Ee;exact Bt.ja (m:=4) (M:=12) (k:=6) (by omega) (by decide) ⟨z,hz,show z.natAbs<=2^6 by omega⟩
theorem SF {R:List (Option (Nat × List (List AV)))} {i e z:Nat} {es:List (List AV)} {K:Option (Nat × List (List AV))->Prop} (he:e=i) (hi:i<R.length) (h:K (some (z,es))):BV (R.set i (some (z,es))) e K:=by
 subst he;exact ⟨_,by rw[List.getElem?_set,if_pos rfl,if_pos hi],h⟩
theorem PN {R:List (Option (Nat × List (List AV)))} {i e z:Nat} {es:List (List AV)} {K:Nat->List (List AV)->Prop} (he:e=i) (hi:i<R.length) (h:K z es):BN (R.set i (some (z,es))) e K:=by
 subst he;exact ⟨z,es,by rw[List.getElem?_set,if_pos rfl,if_pos hi],h⟩
theorem WY {R:List (Option (Nat × List (List AV)))} {i e z:Nat} {es es':List (List AV)} {K:List (Option (Nat × List (List AV)))->Prop} (he:e=i) (hl:es'.length=es.length) (h:K (R.set i (some (z,es')))):CR (R.set i (some (z,es))) e z es es' K:=by
 subst he;exact ⟨hl,by rw[List.set_set];exact h⟩
theorem W2 {R:List (Option (Nat × List (List AV)))} {i e z:Nat} {es:List (List AV)} {K:List (Option (Nat × List (List AV)))->Prop} (he:e=i) (hi:i<R.length) (h:K (R.set i (some (z,es)))):CS R e z es K:=by
 subst he;exact ⟨hi,h⟩
end Go.b8

namespace Go.b8
variable {b a:List Int} {d c:Wd}
end Go.b8

namespace Go.b8
end Go.b8

namespace Go.b8
variable {d c:Wd} {p:List Int}
end Go.b8

namespace Go.b8
open F
attribute [local irreducible] AA AF AQ AC CI AW A5 A9 B4 B3 CE DE BX A3 BW CD AB A4 AJ pw BV BN CS CR C1 CY CT BL DD
variable {L:Lib}
set_option maxHeartbeats 16000000
set_option maxRecDepth 8000
def mz (Q:List (List Rat)) (n i:Nat):List (Option (Nat × List (List AV))):=fz none (BK 3 eQ (Q.take i)) n
theorem sG {Q:List (List Rat)} {n i:Nat} (hi:i<=n):(mz Q n i).length=n:=by
 refine dI ?_;simp only[BK,List.length_map,List.length_take];omega
theorem sI (Q:List (List Rat)) (n:Nat):mz Q n 0=List.replicate n none:=by simp [mz,fz]
theorem sH {Q:List (List Rat)} {n i:Nat} {row:List Rat} (h:Q[i]? = some row) (hi:i<n):(mz Q n i).set i (some (3,row.map eQ))=mz Q n (i+1):=by
 have h1:=(zS h).1;have hl:(BK 3 eQ (Q.take i)).length=i:=by simp only[BK,List.length_map,List.length_take];omega
 have:=dJ (z:=none) (l:=BK 3 eQ (Q.take i)) (m:=n) (x:=some (3,row.map eQ)) (by omega)
 rw[hl]at this;rw[mz,this,mz,FU h];simp [BK]
theorem sF {Q:List (List Rat)} {n:Nat} (h:Q.length=n):mz Q n n=BK 3 eQ Q:=by
 rw[mz,zT (by omega)];exact dH (by simp [BK,h])
end Go.b8

namespace Go.b8
open F
attribute [local irreducible] AA AF AQ AC CI AW A5 A9 B4 B3 CE DE BX A3 BW CD AB A4 AJ pw BV BN CS CR C1 CY CT BL DD
attribute [local irreducible] OK
variable {L:Lib}
set_option maxHeartbeats 16000000
def eP (p:Pt):List AV:=eQ p.x++(eQ p.y++eQ p.w)
theorem Vs (g:List Pt):EZ (g.map eP):=UN (λ p=>by
 show B8 [_,_,_,_,_,_,_,_,_];simp only[B8,A2,and_true,true_and];exact ⟨B5 _,B5 _,B5 _,B5 _,B5 _,B5 _⟩) g
theorem Adu (N:dw L) (n:Int) (hn:FQ n) : ∃ a b:Int,(-12<=a/\a<=12)/\(1<=b/\b<=8)/\Ev L 252 [.int .i64 n] (.agg (eQ (Rat.divInt a b))):=by
 suffices h : ∃ v,Ev L 252 [.int .i64 n] v /\ ∃ a b:Int,v = .agg (eQ (Rat.divInt a b))/\(-12<=a/\a<=12)/\(1<=b/\b<=8) by
  obtain ⟨v,h1,a,b,rfl,h2,h3⟩:=h;exact ⟨a,b,h2,h3,h1⟩
 unfold FQ at hn;have bg:=X5 N.ton9 n 25 (by unfold FQ;omega) (by omega);have a1:=Int.emod_nonneg n (show (25:Int)≠0 by omega);have a2:=Int.emod_lt_of_pos n (show (0:Int)<25 by omega);have y8:=λ(u:Int) (hu:FQ u)=>X5 N.ton9 u 8 hu (by omega)
 have hF:=λ(u:Int) (hu:0<=u/\u<8)=>cT N.toa5 (n%25-12) (1+u) (by omega) (by omega)
 generalize n%25=r at *;refine Ev.xE N.LF rfl rfl ?_;(repeat' ((first|(apply B1;omega)|(refine QR ?_ ?_ (λ_ => ?_) (λ_ _ => ?_);omega;omega;all_goals try omega)|apply AE|refine AD (bg) ?_)<;>conv=>whnf))
 ·have hM:=y8 (n/25) (by unfold FQ;omega)
  have b1:=Int.emod_nonneg (n/25) (show (8:Int)≠0 by omega);have b2:=Int.emod_lt_of_pos (n/25) (show (0:Int)<8 by omega);generalize n/25%8=u at *;have hF:=hF u (by omega);(repeat' ((first|(apply AZ;omega)|refine AD (hM) ?_|refine AD (hF) ?_)<;>conv=>whnf))
  refine ⟨.agg (eQ (Rat.divInt (r-12) (1+u))),?_,_,_,rfl,by omega,by omega⟩;(conv=>whnf)
  exact AX rfl (DJ _)
 ·have hM:=y8 (n/25+1) (by unfold FQ;omega)
  have b1:=Int.emod_nonneg (n/25+1) (show (8:Int)≠0 by omega);have b2:=Int.emod_lt_of_pos (n/25+1) (show (0:Int)<8 by omega);generalize (n/25+1)%8=u at *;have hF:=hF u (by omega);(repeat' ((first|(apply AZ;omega)|refine AD (hM) ?_|refine AD (hF) ?_)<;>conv=>whnf))
  refine ⟨.agg (eQ (Rat.divInt (r-12) (1+u))),?_,_,_,rfl,by omega,by omega⟩;(conv=>whnf)
  exact AX rfl (DJ _)
theorem Adt (N:dw L) (q:Bool) (l:List Int) (hl:l.length<9223372036854775808) (hv : ∀ v∈l,FQ v) : ∃ g:List Pt,IW 840 14 g/\Ev L 255 [.sl q (l.map GD)] (.sl false (g.map eP)):=by
 suffices h : ∃ v,Ev L 255 [.sl q (l.map GD)] v /\ ∃ g:List Pt,v = .sl false (g.map eP)/\IW 840 14 g by
  obtain ⟨v,h1,g,rfl,h2⟩:=h;exact ⟨g,h2,h1⟩
 have hO:=UX N.toa5 (-1) (by omega);refine Ev.xE N.LD rfl rfl ?_;(repeat' ((first|apply AE|refine AD (hO) ?_)<;>conv=>whnf))
 refine OK.tape N.ton9 (a:=0) (by omega) hv (by omega) rfl λ t0 z0 y1 y2 y3 => ?_
 (conv=>whnf)
 (repeat' ((first|(apply AZ;omega)|fail)<;>conv=>whnf))
 obtain ⟨n,hn,Gd⟩ : ∃ n:Nat,1+z0=n/\(1<=n/\n<=12):=⟨(1+z0).toNat,by omega,by omega⟩;rw[hn];refine WF (λ_ i _ _=>n-i) (λ(g:List Pt) (i:Nat) (x:Rat) (t:Nat)=>KE g i x/\i<=n/\t<=1+4*i) (λ_ i _ _=>[(6,.int .i64 ((n:Int)-i)),(5,.row 255005 0 9 0 i)]) (λ g _ x t=>[(255005,255005,.rw 9 (g.map eP)),(255004,255004,.bx (eQ x)),(255009,255009,.bx [.sl q (l.map GD),.int .i64 t])]) [] [] [] 0 ((-1:Int):Rat) t0 (by first|exact (by (conv=>whnf);exact ⟨rfl,rfl,rfl⟩)|(rw[show ((n:Int)-(0:Nat))=n by omega];exact (by (conv=>whnf);exact ⟨rfl,rfl,rfl⟩))) ⟨KE.start,by omega,by omega⟩ ?_;intro g i x t ⟨p0,p1,p2⟩ ih;have p3:=p0.len;by_cases hi:i<n
 ·(repeat' ((first|(apply AG<;>intro hc<;>try omega)|apply AE)<;>conv=>whnf))
  refine OK.tape N.ton9 (by omega) hv (by omega) rfl λ t1 z1 c1 c2 c3 => ?_
  obtain ⟨a,b,ha,hb,hR⟩:=Adu N z1 (by unfold FQ;omega);have hbx:=p0.bx (by omega);(conv=>whnf)
  (repeat' (refine AD (hR) ?_<;>conv=>whnf))
  refine OK.tape N.ton9 (by omega) hv (by omega) rfl λ t2 z2 d1 d2 d3 => ?_
  (conv=>whnf)
  (repeat' ((first|(apply AZ;omega)|fail)<;>conv=>whnf))
  refine OK.tape N.ton9 (by omega) hv (by omega) rfl λ t3 z3 e1 e2 e3 => ?_
  have hF:=cT N.toa5 (1+z2) (1+z3) (by omega) (by omega);(conv=>whnf)
  (repeat' ((first|(apply AZ;omega)|apply E5|refine AD (hF) ?_)<;>conv=>whnf))
  refine FP (enc:=eP) ⟨x,Rat.divInt a b,Rat.divInt (1+z2) (1+z3)⟩ rfl p3.symm rfl (by omega) (by omega) ?_;rw[show (g++[(⟨x,Rat.divInt a b,Rat.divInt (1+z2) (1+z3)⟩:Pt)]).length=i+1 by simp [p3]];(conv=>whnf)
  skip
  refine OK.tape N.ton9 (by omega) hv (by omega) rfl λ t4 z4 f1 f2 f3 => ?_
  have hF2:=cT N.toa5 (1+z4) 12 (by omega) (by omega);have g8:=p0.step (by omega) ha hb (c:=1+z2) (d:=1+z3) (s:=1+z4) (by omega) (by omega) (by omega);have Ek:=cJ N.toa5 hbx (y:=Rat.divInt (1+z4) 12) (l:=20) (Bt.ja (m:=4) (M:=12) (k:=6) (by omega) (by decide) (IQ (T:=1) (by omega) (by decide) (by show (1*(1+z4)).natAbs<=64;omega)) |>.le (by omega)) (by omega) (by omega);generalize x+Rat.divInt (1+z4) 12=x2 at *;(conv=>whnf)
  (repeat' ((first|(apply AZ;omega)|(apply B1;omega)|refine AD (hF2) ?_|refine AD (Ek) ?_)<;>conv=>whnf))
  rw[show (n:Int)-(i:Int)-1=(n:Int)-((i+1:Nat):Int) by omega];exact BM [(255005,255032)] (ih (g++[⟨x,Rat.divInt a b,Rat.divInt (1+z2) (1+z3)⟩]) (i+1) x2 t4 (by omega) ⟨g8,by omega,by omega⟩)
 ·have ei:i=n:=by omega
  clear ih;(repeat' ((first|(apply AG<;>intro hc<;>try omega)|apply AE)<;>conv=>whnf))
  refine ⟨.sl false (g.map eP),?_,g,rfl,p0.fin (by omega)⟩;(conv=>whnf)
  refine EE (enc:=eP) (λ_=>rfl) rfl p3.symm ?_;(conv=>whnf)
  exact AX rfl (by simp only[A2,true_and];exact Vs g)
end Go.b8

namespace Go.b8
variable {L:Lib}
theorem xN {kk:List It} {tm:Tm} {M:Mem} {Q:Tm->Mem->Prop} {k s:Nat} {rows:List (Option (Nat × List (List AV)))} {w:List Nat} (n8:List (Option (Nat × List (List AV)))) (e:b7 M k=some (s,.vw w rows)) (hl:n8.length=w.length)
  (hw : ∀ (i t:Nat),w[i]? = some t -> ∃ r,rows[t]? = some r/\n8[i]? = some r) (hi : ∀ (i i' t:Nat),w[i]? = some t->w[i']? = some t->i=i') (az:IY k tm=false) (nh:HQ k M=false)
  (h:AA L kk tm ((k,s,.mx n8)::M) Q):AA L kk tm M Q:=by
 intro σ st hr;obtain ⟨σ',sf⟩:=hr.Cw e hl hw hi az nh;exact h σ' st sf
theorem iV {kk:List It} {tm:Tm} {M:Mem} {Q:Tm->Mem->Prop} {k s i j:Nat} {rows:List (Option (Nat × List (List AV)))} {a b:Option (Nat × List (List AV))} (e:b7 M k=some (s,.vw (((List.range rows.length).set i j).set j i) rows)) (ha:rows[i]? = some a) (hb:rows[j]? = some b) (az:IY k tm=false) (nh:HQ k M=false)
  (h:AA L kk tm ((k,s,.mx ((rows.set i b).set j a))::M) Q):AA L kk tm M Q:=by
 have hi:=(zS ha).1;have hj:=(zS hb).1;have Mz : ∀ p,p<rows.length->(((List.range rows.length).set i j).set j i)[p]? = some (if p=j then i else if p=i then j else p):=λ p hp=>by
  rw[List.getElem?_set,List.getElem?_set,List.length_set,List.length_range];by_cases h1:j=p
  ·subst h1;simp [hp]
  ·rw[if_neg h1,if_neg (Ne.symm h1)]
   by_cases h2:i=p
   ·subst h2;simp [hp]
   ·rw[if_neg h2,if_neg (Ne.symm h2),List.getElem?_range hp]
 have Ae : ∀ p t,(((List.range rows.length).set i j).set j i)[p]? = some t->p<rows.length:=λ p t hp=>by
  have:=(zS hp).1
  simpa using this
 refine xN ((rows.set i b).set j a) e (by simp) (λ p t hp => ?_) (λ p p' t hp wj => ?_) az nh h
 ·have ix:=Ae p t hp
  rw[Mz p ix]at hp;obtain rfl:=Option.some.inj hp;rw[List.getElem?_set,List.getElem?_set,List.length_set];by_cases h1:p=j
  ·subst h1
   exact ⟨a,by rw[if_pos rfl];exact ha,by rw[if_pos rfl,if_pos ix]⟩
  ·rw[if_neg h1,if_neg (Ne.symm h1)]
   by_cases h2:p=i
   ·subst h2
    exact ⟨b,by rw[if_pos rfl];exact hb,by rw[if_pos rfl,if_pos ix]⟩
   ·rw[if_neg h2,if_neg (Ne.symm h2)]
    exact ⟨_,zE ix,zE ix⟩
 ·have ix:=Ae p t hp
  have Ls:=Ae p' t wj;rw[Mz p ix]at hp;rw[Mz p' Ls]at wj;have:=Option.some.inj (hp.trans wj.symm)
  split at this<;>split at this<;>(try split at this)<;>(try split at this)<;>omega
def J6:BH->Bool
 | .ret=>false
 | .dr c _ _=>J6 c
 | .scope c=>J6 c
 | .seq a b=>J6 a&&J6 b
 | .cond _ a b=>J6 a&&J6 b
 | .block _ c=>J6 c
 | .loop c=>J6 c
 | _=>true
def J7:It->Bool
 | .code c=>J6 c
 | .lp c=>J6 c
 | _=>true
theorem U1 {id:Nat} {kk:List It} : ∀ {l l':List It},DS id l=some l'->DS id (l++kk)=some (l'++kk)
 | [],_,h=>by cases h
 | .c7 i::l,l',h=>by
  simp only[List.cons_append,DS]at h ⊢;split at h
  ·rename_i e;rw[if_pos e];cases h;rfl
  ·rename_i e;rw[if_neg e];exact U1 h
 | .code c::l,l',h=>by
  simp only[List.cons_append,DS]at h ⊢;exact U1 h
 | .jr a b::l,l',h=>by
  simp only[List.cons_append,DS]at h ⊢;exact U1 h
 | .lp c::l,l',h=>by
  simp only[List.cons_append,DS]at h ⊢;exact U1 h
theorem U0 {id:Nat} {p:It->Bool} : ∀ {l l':List It},DS id l=some l'->l.all p=true->l'.all p=true
 | [],_,h,_=>by cases h
 | .c7 i::l,l',h,ha=>by
  simp only[DS]at h;simp only[List.all_cons,Bool.and_eq_true]at ha;split at h
  ·cases h;exact ha.2
  ·exact U0 h ha.2
 | .code c::l,l',h,ha=>by
  simp only[DS]at h;simp only[List.all_cons,Bool.and_eq_true]at ha;exact U0 h ha.2
 | .jr a b::l,l',h,ha=>by
  simp only[DS]at h;simp only[List.all_cons,Bool.and_eq_true]at ha;exact U0 h ha.2
 | .lp c::l,l',h,ha=>by
  simp only[DS]at h;simp only[List.all_cons,Bool.and_eq_true]at ha;exact U0 h ha.2
theorem IK {C:Cl} {kk:List It} {m:Nat} {A7 BJ:St} (hk:run C m kk A7=some BJ) : ∀ (n:Nat) (l:List It) (st:St),l.all J7=true->run C n l st=some A7->run C (n+m) (l++kk) st=some BJ
 | 0,_,_,_,h=>by cases h
 | n+1,[],st,_,h=>by
  simp only[run,Option.some.injEq]at h;subst h;exact IL (C:=C) (C':=C) ⟨λ_ _ _ h=>h,λ_ _ _ _ h=>h,rfl⟩ (by omega) hk
 | n+1,.c7 i::l,st,ha,h=>by
  simp only[List.all_cons,Bool.and_eq_true]at ha;rw[show n+1+m=n+m+1 by omega];simp only[List.cons_append,run]at h ⊢;exact IK hk n l st ha.2 h
 | n+1,.jr ts ss::l,st,ha,h=>by
  simp only[List.all_cons,Bool.and_eq_true]at ha;rw[show n+1+m=n+m+1 by omega];simp only[List.cons_append,run]at h ⊢;exact IK hk n l _ ha.2 h
 | n+1,.lp c::l,st,ha,h=>by
  rw[show n+1+m=n+m+1 by omega];simp only[List.cons_append,run]at h ⊢;exact IK hk n (.code c :: .lp c::l) st (by simp only[List.all_cons,J7,Bool.and_eq_true]at ha ⊢;exact ⟨ha.1,ha.1,ha.2⟩) h
 | n+1,.code c::l,st,ha,h=>by
  simp only[List.all_cons,J7,Bool.and_eq_true]at ha;obtain ⟨h1,h2⟩:=ha;rw[show n+1+m=n+m+1 by omega];cases c with
  | ret=>cases h1
  | skip =>
   simp only[List.cons_append,run]at h ⊢;exact IK hk n l st h2 h
  | ops o d =>
   simp only[List.cons_append,run]at h ⊢;cases hs:CZ C o st with
   | none=>rw[hs]at h;cases h
   | some s'=>rw[hs]at h;exact IK hk n l s' h2 h
  | dr c ts ss =>
   simp only[List.cons_append,run]at h ⊢;exact IK hk n (.code c :: .jr ts ss::l) st (by simp only[List.all_cons,J7,Bool.and_eq_true];exact ⟨h1,trivial,h2⟩) h
  | scope c =>
   simp only[List.cons_append,run]at h ⊢;exact IK hk n (.code c::l) st (by simp only[List.all_cons,J7,Bool.and_eq_true];exact ⟨h1,h2⟩) h
  | seq a b =>
   simp only[J6,Bool.and_eq_true]at h1;simp only[List.cons_append,run]at h ⊢;exact IK hk n (.code a :: .code b::l) st (by simp only[List.all_cons,J7,Bool.and_eq_true];exact ⟨h1.1,h1.2,h2⟩) h
  | cond x a b =>
   simp only[J6,Bool.and_eq_true]at h1;simp only[List.cons_append,run]at h ⊢;split at h
   ·exact IK hk n (.code a::l) st (by simp only[List.all_cons,J7,Bool.and_eq_true];exact ⟨h1.1,h2⟩) h
   ·exact IK hk n (.code b::l) st (by simp only[List.all_cons,J7,Bool.and_eq_true];exact ⟨h1.2,h2⟩) h
   ·cases h
  | block i c =>
   simp only[List.cons_append,run]at h ⊢;exact IK hk n (.code c :: .c7 i::l) st (by simp only[List.all_cons,J7,Bool.and_eq_true];exact ⟨h1,trivial,h2⟩) h
  | loop c =>
   simp only[List.cons_append,run]at h ⊢;exact IK hk n (.code c :: .lp c::l) st (by simp only[List.all_cons,J7,Bool.and_eq_true];exact ⟨h1,h1,h2⟩) h
  | exit i =>
   simp only[List.cons_append,run]at h ⊢;cases he:DS i l with
   | none=>rw[he]at h;cases h
   | some l' =>
    rw[he]at h;rw[U1 he];exact IK hk n l' st (U0 he h2) h
theorem SA {l kk:List It} {tm:Tm} {M:Mem} {Q:Tm->Mem->Prop} (hn:l.all J7=true) (h:AA L l tm M (λ tm M=>AA L kk tm M Q)):AA L (l++kk) tm M Q:=by
 intro σ st hr;obtain ⟨n,c,A7,h1,σ1,Rq,M1,w6,h2⟩:=h σ st hr;obtain ⟨m,c2,BJ,h3,h4⟩:=h2 σ1 A7 w6;obtain ⟨c3,g1,g2⟩ : ∃ c3,(CJ L c).le (CJ L c3)/\(CJ L c2).le (CJ L c3):=⟨max c c2,EN (Nat.le_max_left _ _),EN (Nat.le_max_right _ _)⟩;exact ⟨n+m,c3,BJ,IK (IL g2 (Nat.le_refl _) h3) n l st hn (IL g1 (Nat.le_refl _) h1),h4⟩
structure WP (p:Prop):Prop where
 go ::
 out:p
theorem xL {α β γ:Type} {l kk:List It} {tm:Tm} {M:Mem} {Q:Tm->Mem->Prop} (P:α->β->γ->Prop) (vs:α->β->γ->Tm) (Ms:α->β->γ->Mem) (ts:List Nat) (hn:l.all J7=true)
  (hr : ∀ a b c,P a b c->AA L kk (vs a b c++o8 ts tm) (Ms a b c++M) Q)
  (h:(∀ a b c,P a b c->AA L kk (vs a b c++o8 ts tm) (Ms a b c++M) Q)->AA L l tm M (λ tm M=>WP (AA L kk tm M Q))):AA L (l++kk) tm M Q:=by
 refine SA hn ?_;intro σ st hs;obtain ⟨n,c,A7,h1,σ1,Rq,M1,w6,h2⟩:=h hr σ st hs;exact ⟨n,c,A7,h1,σ1,Rq,M1,w6,h2.out⟩
end Go.b8

namespace Go.b8
set_option maxHeartbeats 4000000
theorem AgR (S:Nat) (x:Rat):((S:Rat)*x).den ∣ x.den:=by
 refine lY (z:=S*x.num) ?_;have h:=VD x;rw[Rat.intCast_mul,<-h,Rat.intCast_natCast];grind
theorem uK {k:Nat} : ∀ (l:List Rat) (S:Nat),0<S->Bs k l -> ∃ S':Nat,l.foldl NP (S:Rat)=(S':Rat)/\0<S'/\S'<=S*2^(l.length*k)/\S ∣ S' /\ ∀ x∈l,∃ z:Int,x*(S':Rat)=(z:Rat)
 | [],S,h,_=>⟨S,rfl,h,by simp,Nat.dvd_refl S,λ x hx=>by cases hx⟩
 | x::l,S,h,hb=>by
  have h1:=AgR S x;have hx:=hb x List.mem_cons_self;have h2:((S:Rat)*x)*((((S:Rat)*x).den:Nat):Rat)=(((S:Rat)*x).num:Rat):=VD _;have h3:=Nat.le_of_dvd x.den_pos h1;have h4:=((S:Rat)*x).den_pos;generalize ((S:Rat)*x).num=u at h2;obtain ⟨S',e,p1,p2,p3,p4⟩:=uK l (S*((S:Rat)*x).den) (Nat.mul_pos h h4) λ y hy=>hb y (List.mem_cons_of_mem _ hy)
  refine ⟨S',by rw[List.foldl_cons,<-e,NP,Rat.natCast_mul],p1,?_,Nat.dvd_trans (Nat.dvd_mul_right _ _) p3,λ y hy => ?_⟩
  ·have h5:S*((S:Rat)*x).den<=S*2^k:=Nat.mul_le_mul_left S (Nat.le_trans h3 hx.2)
   have h6:=zR (2^(l.length*k)) h5;rw[List.length_cons,Nat.succ_mul,Nat.pow_add,Nat.mul_comm (2^(l.length*k)),<-Nat.mul_assoc];exact Nat.le_trans p2 h6
  ·rcases List.mem_cons.1 hy with rfl|hy
   ·obtain ⟨t,rfl⟩:=p3
    refine ⟨u*(t:Int),?_⟩;rw[Rat.natCast_mul,Rat.natCast_mul,Rat.intCast_mul,<-h2,Rat.intCast_natCast];grind
   ·exact p4 y hy
theorem AgV {k:Nat} {l:List Rat} (hb:Bs k l) : ∃ S:Nat,BI l=(S:Rat)/\0<S/\S<=2^(l.length*k) /\ ∀ x∈l,∃ z:Int,x*(S:Rat)=(z:Rat):=by
 obtain ⟨S,e,h1,h2,_,h3⟩:=uK l 1 (by omega) hb;exact ⟨S,e,h1,by rwa [Nat.one_mul]at h2,h3⟩
theorem jM {es:List (List AV)} {i j n:Nat} {K:List AV->Prop} {cs ds:List AV} (h:es[i]? = some cs) (hp:part cs j n=some ds) (hk:K ds):A5 es i j n K:=by
 unfold A5;exact ⟨cs,ds,h,hp,hk⟩
theorem jW {es:List (List AV)} {off len:Nat} {K:List (List AV)->Prop} (h:Nat.ble (off+len) es.length=true) (hz:es.all FG=true) (hk:K ((es.drop off).take len)):A3 es off len K :=
 UC (Nat.le_of_ble_eq_true h) (λ e he=>List.all_eq_true.1 hz e he) hk
end Go.b8

namespace Go.b8
open F
attribute [local irreducible] AA AF AQ AC CI AW A5 A9 B4 B3 CE DE BX A3 BW CD AB A4 AJ pw BV BN CS CR C1 CY CT BL DD
variable {L:Lib}
set_option maxHeartbeats 16000000
set_option maxRecDepth 8000
abbrev cB (q:Bool) (m:List (List Rat)):List (List AV):=m.map λ r=>[AV.sl q (r.map eQ)]
theorem UK (m:List (List Rat)) (e:Int):A2 (.e6 [.sl false (eM m),.int .i64 e]):=by
 simp only[A2,B8,and_true,true_and];exact kX m
def cw (n:Nat) (v:List Rat):List (Option Rat):=List.replicate (n-v.length) none++v.map some
theorem lU {n:Nat} {v:List Rat} (h:v.length<=n):(cw n v).length=n:=by simp [cw];omega
theorem Ut (n:Nat):cw n []=List.replicate n none:=by simp [cw]
theorem Ur {n s:Nat} {v:List Rat} {x:Rat} (h:v[s]? = some x):(cw n v)[n-v.length+s]? = some (some x):=by
 rw[cw,List.getElem?_append_right (by simp),List.length_replicate,Nat.add_sub_cancel_left,List.getElem?_map,h];rfl
theorem Uu {n:Nat} {v:List Rat} {x:Rat} (h:v.length<n):(cw n v).set (n-(v.length+1)) (some x)=cw n (x::v):=by
 obtain ⟨k,hk⟩ : ∃ k,n-v.length=k+1:=⟨n-v.length-1,by omega⟩;have e:n-(v.length+1)=k:=by omega
 simp only[cw,hk,List.length_cons,e];rw[List.replicate_succ',List.append_assoc,List.set_append_right _ _ (by simp),List.length_replicate,Nat.sub_self];rfl
theorem Us {n:Nat} {v:List Rat} (h:v.length=n):(cw n v).map eO=v.map eQ:=by
 simp [cw,h,Function.comp_def]
theorem RB {l:List Rat} {i:Nat} (h:i<l.length):l[i]? = some (l.getD i 0):=by
 rw[List.getD_eq_getElem?_getD,zE h];rfl
theorem Ade (N:o4 L) (q q':Bool) (m:List (List Rat)) (n W c S:Nat) (l:Rat) (hm:m.length=n) (hW : ∀ r∈m,r.length=W) (hn:1<=n/\n<=1000) (hnW:n<=W) (hc:c<W) (Kf:W<=100000)
  (hd : ∀ (k:Nat) (r:List Rat),m[k]? = some r->r.getD k 0≠0) (kb:Ms S m) (hl:Bt S l) {C:Nat->Nat} (hC : ∀ k,Bs (C k) (D0 c l (m.drop k) k)) (hB : ∀ k,k<n->3*S+n*(S+C (k+1)+1)<=1000000000000):Ev L 234 [.sl q (cB q' m),.int .i64 c,.agg (eQ l)] (.sl false ((D0 c l m 0).map eQ)):=by
 have hS:S<2199023255552:=by
  have:=hB 0 (by omega)
  omega
 refine Ev.x N.K8 rfl rfl ?_;(repeat' ((first|apply AU|apply AE)<;>conv=>whnf))
 refine EJ (enc:=eO) none n rfl (by omega) (by omega) ?_;(conv=>whnf)
 (repeat' ((first|(apply B1;omega)|apply AU)<;>conv=>whnf))
 rw[hm];refine EI (λ k=>k) (λ(k:Nat)=>k<=n) (λ k=>[(8,.int .i64 ((k:Int)-1))]) (λ k=>[(13,13,.rw 3 ((cw n (D0 c l (m.drop k) k)).map eO))]) [] [] n (by first|exact (by (conv=>whnf);exact ⟨rfl,rfl,rfl⟩)|(rw[List.drop_of_length_le (by omega),D0,Ut];exact (by (conv=>whnf);exact ⟨rfl,rfl,rfl⟩))) (by omega) ?_;intro k p1 kh;rcases k with _|k
 ·clear kh
  rw[List.drop_zero,Us (by rw[OV];exact hm)];(repeat' ((first|(apply AG<;>intro hc<;>try omega)|apply AE)<;>conv=>whnf))
  refine EE (enc:=eQ) (λ_=>rfl) rfl (by rw[OV];omega) ?_;(conv=>whnf)
  exact AX rfl (by simp only[A2,true_and];exact IZ _)
 ·obtain ⟨r,hr⟩ : ∃ r,m[k]? = some r:=⟨_,zE (by omega)⟩
  have sf:m[(k:Int).toNat]? = some r:=hr;have jn:=hW r (zM hr);have e1:((k+1:Nat):Int)-1=k:=by omega
  have hv:D0 c l (m.drop k) k=(r.getD c 0*l-A6 (r.drop (k+1)) (D0 c l (m.drop (k+1)) (k+1)))/r.getD k 0::D0 c l (m.drop (k+1)) (k+1):=by
   obtain ⟨h1,h2⟩:=zS hr;rw[List.drop_eq_getElem_cons h1,D0,h2]
  have mh:(D0 c l (m.drop (k+1)) (k+1)).length=n-(k+1):=by rw[OV,List.length_drop,hm]
  have ou:=hC (k+1);have hB2:=hB k (by omega);have si:=kb.at hr;have Dq:r[(c:Int).toNat]? = some (r.getD c 0):=RB (by omega);have Dr:r[(k:Int).toNat]? = some (r.getD k 0):=RB (by omega);have Ma:=hd k r hr;have bc:=si.at Dq;have bk:=si.at Dr;have hM:=G3 N.toa4 bc hl hS hS;generalize xy:r.getD c 0=rc at *;generalize AnH:r.getD k 0=rk at *;generalize D0 c l (m.drop (k+1)) (k+1)=v at *;generalize C (k+1)=X at *;rw[e1];(repeat' ((first|(apply AG<;>intro hc<;>try omega)|(apply AZ;omega)|(refine BA (by assumption) ?_ rfl ?_;omega)|apply AE|refine AD (hM) ?_)<;>conv=>whnf))
  refine JS (λ s _=>n-s) (λ(s:Nat) (acc:Rat)=>k+1+s<=n/\acc=rc*l-A6 ((r.drop (k+1)).take s) (v.take s)) (λ s _=>[(10,.int .i64 ((k+1+s:Nat):Int))]) (λ_ acc=>[(9,9,.bx (eQ acc))]) 0 (rc*l) ⟨by omega,by simp only[List.take_zero,A6];grind⟩ ?_;intro s acc ⟨p2,p3⟩ sh;have nb:Bt (2*S+(n-(k+1))*(S+X+1)+1) acc:=by
   rw[p3];have h1:=Xf (k:=S) (l:=X) (a:=(r.drop (k+1)).take s) (b:=v.take s) (n:=n-(k+1)) (λ x hx=>si x (List.mem_of_mem_drop (List.mem_of_mem_take hx))) (ou.take s) (by rw[List.length_take];omega);exact ((bc.mul hl).aj h1).le (by omega)
  have hmul:=zR (S+X+1) (show n-(k+1)+1<=n by omega);rw[Nat.add_mul,Nat.one_mul]at hmul;have hX:X<2199023255552:=by
   have:=Nat.le_mul_of_pos_left (S+X+1) (show 0<n by omega)
   omega
  by_cases hs:k+1+s<n
  ·obtain ⟨x,hx⟩ : ∃ x,v[s]? = some x:=⟨_,zE (by omega)⟩
   obtain ⟨y,hy⟩ : ∃ y,r[k+1+s]? = some y:=⟨_,zE (by omega)⟩;have Cs:r[((k+1+s:Nat):Int).toNat]? = some y:=hy;have Dx:(r.drop (k+1))[s]? = some y:=by rw[List.getElem?_drop];exact hy
   have lu:=Ur (n:=n) hx;rw[mh,show n-(n-(k+1))+s=k+1+s by omega]at lu;have m5:=lU (n:=n) (v:=v) (by omega);have qg:=si.at hy
   have bx:=ou.at hx;have y8:=G3 N.toa4 qg bx hS hX
   have zh:=oY N.tow9 nb (qg.mul bx) (by omega) (by
    have:=Nat.le_mul_of_pos_left (S+X+1) (show 0<n-(k+1) by omega)
    omega)
   have Kx:=Zb Dx hx;generalize cw n v=C at *;(repeat' ((first|(apply AG<;>intro hc<;>try omega)|(apply AY;omega)|apply AU|(refine BA (by assumption) ?_ rfl ?_;omega)|apply AE)<;>conv=>whnf))
   refine JV (enc:=eO) (e:=some x) (by rw[Nat.zero_add];exact lu) rfl ?_;(conv=>whnf)
   (repeat' ((first|(apply AZ;omega)|refine AD (y8) ?_|refine AD (zh) ?_)<;>conv=>whnf))
   refine BS [] (by (conv=>whnf);exact ⟨rfl,rfl,rfl⟩) (sh (s+1) (acc-y*x) (by omega) ⟨by omega,?_⟩);rw[Kx,p3];grind
  ·obtain rfl:s=n-(k+1):=by omega
   clear sh;have Kx:acc=rc*l-A6 (r.drop (k+1)) v:=by
    rw[p3,KR,bW mh,KR]
   have hD:=SV N.toa4 nb bk (by omega) hS Ma;have gj:=Uu (n:=n) (v:=v) (x:=acc/rk) (by omega);rw[mh,show n-(n-(k+1)+1)=k by omega]at gj;have m5:=lU (n:=n) (v:=v) (by omega);rw[<-Kx]at hv;rw[<-hv]at gj;generalize cw n v=C at *;(repeat' ((first|(apply AG<;>intro hc<;>try omega)|(apply AY;omega)|apply AU|(refine BA (by assumption) ?_ rfl ?_;omega)|apply AE|refine AD (hD) ?_)<;>conv=>whnf))
   refine ET (enc:=eO) (some (acc/rk)) rfl (λ e=>by cases e<;>rfl) (by omega) ?_;(conv=>whnf)
   rw[gj];(repeat' ((first|(apply B1;omega)|fail)<;>conv=>whnf))
   exact BM [] (kh k (by omega) (by omega))
theorem bO:dg 1=[1]:=by rw[IE (by decide)];simp [EU]
theorem oB (N:a4 L) {s:Rat} {a l d:Nat} (q:Bool) (hs:Bt a s) (hd:d<=2^l) (ha:a<2199023255552) (hl:l<2199023255552):Ev L 99 [.agg (eQ s),.agg [.bool false,.sl false ((dg d).map AL),.sl q [[.int .u32 1]]]] (.agg (eQ (s*((d:Nat):Rat)))):=by
 have jx:Bt l ((d:Nat):Rat):=⟨by simpa using hd,by simpa using Nat.one_le_two_pow⟩;have e:=EG ((d:Nat):Rat);have h1:=(jx.sm hl).1;have h2:=(jx.sm hl).2;rw[Rat.num_natCast,Rat.den_natCast,Int.natAbs_natCast,show decide ((d:Int)<0)=false by simp,bO]at e;rw[Rat.num_natCast,Int.natAbs_natCast]at h1;rw[Rat.den_natCast,bO]at h2;have h:=YA N 68719476736 (by omega) (decide (s.num<0)) false false false false q _ _ (dg d) [1] (hs.sm ha).1 (hs.sm ha).2 h1 h2;rw[EG,e]at h;exact h
theorem xC {N i k:Nat} (hk:k<N) : ∀ t,t∈(List.range N).set i k->t<N:=λ t ht=>by
 rcases List.mem_or_eq_of_mem_set ht with h|h
 ·exact List.mem_range.1 h
 ·omega
theorem YV {z:Nat} {m:List (List Rat)} {i:Nat} {r:List Rat} (h:m[i]? = some r):(BK z eQ m)[i]? = some (some (z,r.map eQ)):=by
 rw[BK,List.getElem?_map,h];rfl
theorem AfM {z:Nat} {m:List (List Rat)} {i j:Nat} {a b:List Rat}:((BK z eQ m).set i (some (z,b.map eQ))).set j (some (z,a.map eQ))=BK z eQ ((m.set i b).set j a):=by
 simp only[BK,List.map_set]
theorem WO {R:List (Option (Nat × List (List AV)))} {e z:Nat} {es:List (List AV)} {K:Nat->List (List AV)->Prop} (h:R[e]? = some (some (z,es))) (hk:K z es):BN R e K:=by
 unfold BN;exact ⟨z,es,h,hk⟩
theorem VV {α:Type} {l:List α} {i:Nat} {x:α} (h:l[i]? = some x):l.set i x=l:=by
 obtain ⟨h1,rfl⟩:=zS h;exact List.set_getElem_self h1
theorem AfD {a b:List Rat} {c:Nat} (hl:a.length=b.length) (h : ∀ j,j<c->a.getD j 0=0/\b.getD j 0=0):a.take c++b.drop c=b:=by
 have e:a.take c=b.take c:=by
  refine List.ext_getElem? λ j => ?_
  rw[List.getElem?_take,List.getElem?_take];by_cases hj:j<c
  ·rw[if_pos hj,if_pos hj]
   obtain ⟨h1,h2⟩:=h j hj;rw[List.getD_eq_getElem?_getD]at h1 h2;by_cases fr:j<a.length
   ·rw[zE fr,zE (by omega)]at *
    simp only[Option.getD_some]at h1 h2;rw[h1,h2]
   ·rw[List.getElem?_eq_none (by omega),List.getElem?_eq_none (by omega)]
  ·rw[if_neg hj,if_neg hj]
 rw[e,List.take_append_drop]
theorem AfB {a b:List Rat} {j:Nat} {x:Rat} (hl:a.length=b.length) (hx:b[j]? = some x):(a.take j++b.drop j)[j]? = some x:=by
 have h1:=(zS hx).1;have ht:(a.take j).length=j:=by rw[List.length_take];omega
 rw[List.getElem?_append_right (by omega),ht,Nat.sub_self,List.getElem?_drop];exact hx
theorem AfC {a b:List Rat} {j:Nat} {y:Rat} (hl:a.length=b.length) (hy:a[j]? = some y):(a.take j++b.drop j).set j y=a.take (j+1)++b.drop (j+1):=by
 have h1:=(zS hy).1;have ht:(a.take j).length=j:=by rw[List.length_take];omega
 rw[List.set_append_right _ _ (by omega),ht,Nat.sub_self,List.drop_eq_getElem_cons (by omega),List.set_cons_zero,HK hy,List.append_assoc];rfl
theorem nD {m0 m a b:List (List Rat)} {K n w c:Nat} {P:List Nat} {odd:Bool} {l:Rat} (hE:GN m0 K (n+w) n m P c odd l) (hs:UB m0 (DW a b)) (hl:a.length=b.length) (ha : ∀ r∈a,r.length=n) (lq:a.length=n) (af:n<=c\/n<=P.length):P.length=n↔NS n a:=by
 have Kz:DF m (n+w) n P:=by
  have hc:=hE.cc;rcases af with h|h
  ·obtain rfl:c=n:=by omega
   exact hE.o6
  ·have h1:=hE.o6.pl
   have h2:=hE.len;have h3:=hs.1;simp only[DW,List.length_zipWith]at h3;exact hE.o6.wide (by omega) hc
 exact tU Kz (λ X=>(hE.ml X).trans (hs.ml X)) hl ha
abbrev FE (q:Bool) (m:List (List AM)):List (List AV):=m.map λ r=>[AV.sl q (r.map eW)]
def vM (m:List (List AM)):List (List Rat):=m.map λ r=>r.map AM.v
def AM.Fit (k:Nat) (w:AM):Prop:=Bt k w.v/\w.Sz 68719476736
def DZ (k:Nat) (m:List (List AM)):Prop := ∀ r∈m,∀ x∈r,x.Fit k
def wR (r:List Rat):List AM:=r.map GU
def wM (m:List (List Rat)):List (List AM):=m.map wR
theorem ST (r:List Rat):(wR r).map eW=r.map eQ:=by
 rw[wR,List.map_map];rfl
theorem QJ (r:List Rat):(wR r).map AM.v=r:=by
 rw[wR,List.map_map];exact (List.map_congr_left λ x _=>KB x).trans (List.map_id' r)
theorem mY (q:Bool) (m:List (List Rat)):FE q (wM m)=cB q m:=by
 simp only[wM,List.map_map,Function.comp_def,ST]
theorem TU (m:List (List Rat)):vM (wM m)=m:=by
 simp only[vM,wM,List.map_map,Function.comp_def,QJ,List.map_id']
theorem FL {k:Nat} {x:Rat} (h:Bt k x) (hk:k<2199023255552):(GU x).Fit k:=by
 refine ⟨by rw[KB];exact h,?_⟩;exact h.fi hk
theorem DZ.of {k:Nat} {m:List (List Rat)} (h:Ms k m) (hk:k<2199023255552):DZ k (wM m):=λ r hr x hx=>by
 obtain ⟨s,hs,rfl⟩:=List.mem_map.1 hr;obtain ⟨y,hy,rfl⟩:=List.mem_map.1 hx;exact FL (h s hs y hy) hk
theorem DZ.ms {k:Nat} {m:List (List AM)} (h:DZ k m):Ms k (vM m):=λ r hr x hx=>by
 obtain ⟨s,hs,rfl⟩:=List.mem_map.1 hr;obtain ⟨y,hy,rfl⟩:=List.mem_map.1 hx;exact (h s hs y hy).1
theorem AM.Sz.fit {w:AM} {k:Nat} (h:w.Sz k) (hk:k<=68719476736):w.Fit (32*k):=⟨AM.bt h,h.1.le hk,h.2.le hk⟩
theorem TT {m:List (List AM)} {n:Nat} (h:m.length=n):(vM m).length=n:=by rw[vM,List.length_map];exact h
theorem WD {m:List (List AM)} {w:Nat} (h : ∀ r∈m,r.length=w) : ∀ r∈vM m,r.length=w:=λ r hr=>by
 obtain ⟨s,hs,rfl⟩:=List.mem_map.1 hr;rw[List.length_map];exact h s hs
theorem Z9 {m:List (List Rat)} {n:Nat} (h:m.length=n):(wM m).length=n:=by rw[wM,List.length_map];exact h
theorem aA {m:List (List Rat)} {w:Nat} (h : ∀ r∈m,r.length=w) : ∀ r∈wM m,r.length=w:=λ r hr=>by
 obtain ⟨s,hs,rfl⟩:=List.mem_map.1 hr;rw[wR,List.length_map];exact h s hs
theorem iP {r:List AM} {j:Nat} {x:AM} (h:r[j]? = some x):(r.map AM.v)[j]? = some x.v:=by rw[List.getElem?_map,h];rfl
theorem IA {m:List (List AM)} {i:Nat} {r:List AM} (h:m[i]? = some r):(vM m)[i]? = some (r.map AM.v):=by rw[vM,List.getElem?_map,h];rfl
theorem Agg (x:Rat):qv false (dg x.num.natAbs) (dg x.den)=GZ x:=by
 unfold GZ;split
 ·rename_i h
  have:=EG (-x)
  rw[Rat.neg_num,Int.natAbs_neg,Rat.neg_den,show decide (-x.num<0)=false from decide_eq_false (by omega)]at this;exact this
 ·rename_i h
  have:=EG x
  rw[show decide (x.num<0)=false from decide_eq_false h]at this;exact this
theorem Yb (N:w8 L) {x:Rat} {k:Nat} (hx:Bt k x) (hk:k<2199023255552):Ev L 256 [.agg (eQ x)] (.agg (eQ (GZ x))):=by
 have hs:=hx.sm hk;have hT:=YB N.toa4 false false false (dg x.num.natAbs) (dg x.den) (hs.1.le (by omega)) (hs.2.le (by omega));rw[Agg]at hT;refine Ev.x N.JD rfl rfl ?_;(repeat' ((first|apply AE|refine AD (hT) ?_)<;>conv=>whnf))
 exact AX rfl (DJ _)
theorem mZ (z:Int):eQ (z:Rat)=[.bool (decide (z<0)),.sl false ((dg z.natAbs).map AL),.sl false [[.int .u32 1]]]:=by
 simp only[eQ,rQ,Rat.num_intCast,Rat.den_intCast,bO];rfl
theorem oI (N:w8 L) {x:Rat} {k:Nat} (hx:Bt k x) (hk:k<2199023255552):Ev L 257 [.agg (eQ x)] (.e6 [.agg (eQ ((x.num:Int):Rat)),.agg (eQ (((x.den:Nat):Int):Rat))]):=by
 rw[mZ,mZ,show decide (((x.den:Nat):Int)<0)=false by simp,Int.natAbs_natCast];refine Ev.x N.L4 rfl rfl ?_;(repeat' ((first|refine HM rfl ?_|apply AE)<;>conv=>whnf))
 exact AX rfl (by
  simp only[A2,B8,EZ,and_true,true_and];exact ⟨B5 _,B5 _⟩)
theorem Agi (m d:List Nat):0<=(qv false m d).num:=by
 rw[qv,D9,Rat.num_mkRat];split
 ·exact Int.le_refl 0
 ·exact Int.ediv_nonneg (Int.natCast_nonneg _) (Int.natCast_nonneg _)
theorem Agh (n:Bool) (m d:List Nat):qv false m d=GZ (qv n m d):=by
 have h0:=Agi m d;cases n
 ·rw[GZ,if_neg (by omega)]
 ·have e:qv true m d = -qv false m d:=by
   rw[qv,qv,D9,NY,Rat.neg_mkRat]
  rw[e];generalize qv false m d=x at *;unfold GZ;rw[Rat.neg_num];split
  ·rw[Rat.neg_neg]
  ·have:x.num=0:=by omega
   rw[Rat.num_eq_zero.1 this];rfl
theorem Yc (N:w8 L) {w:AM} {k:Nat} (h:w.Sz k) (hk:k<=68719476736):Ev L 256 [.agg (eW w)] (.agg (eQ (GZ w.v))):=by
 have hT:=YB N.toa4 false false false w.m w.d (h.1.le (by omega)) (h.2.le (by omega));rw[Agh w.n w.m w.d,show qv w.n w.m w.d=w.v from rfl]at hT;have hc:=DJ (GZ w.v);generalize GZ w.v=y at *;refine Ev.x N.JD rfl rfl ?_;(repeat' ((first|apply AE|refine AD (hT) ?_)<;>conv=>whnf))
 exact AX rfl hc
theorem Adi (N:a4 L) {w:AM} {y:Rat} {k l:Nat} (h:w.Sz k) (hy:Bt l y) (hk:k<=68719476736) (hl:l<2199023255552) (h0:y≠0):Ev L 100 [.agg (eW w),.agg (eQ y)] (.e6 [.agg (eQ (w.v/y)),.int .i64 0]):=by
 have:=cX N 68719476736 (by omega) w.n (decide (y.num<0)) false false false false w.m w.d _ _ (h.1.le hk) (h.2.le hk) (hy.fi hl).1 (hy.fi hl).2 (by rw[EG];exact h0)
 rw[EG]at this;exact this
theorem Adj (N:a4 L) {w:AM} {x:Rat} {k l:Nat} (hx:Bt l x) (h:w.Sz k) (hl:l<2199023255552) (hk:k<=68719476736) (h0:w.v≠0):Ev L 100 [.agg (eQ x),.agg (eW w)] (.e6 [.agg (eQ (x/w.v)),.int .i64 0]):=by
 have:=cX N 68719476736 (by omega) (decide (x.num<0)) w.n false false false false _ _ w.m w.d (hx.fi hl).1 (hx.fi hl).2 (h.1.le hk) (h.2.le hk) h0
 rw[EG]at this;exact this
theorem Adg (N:a4 L) {w:AM} {x:Rat} {k l:Nat} (hx:Bt l x) (h:w.Sz k) (hl:l<2199023255552) (hk:k<=68719476736) (h0:w.v=0):Ev L 100 [.agg (eQ x),.agg (eW w)] (.e6 [.agg (rQ false false false [] []),.int .i64 3]) :=
 Zc N 68719476736 (by omega) (decide (x.num<0)) w.n false false false false _ _ w.m w.d (hx.fi hl).1 (hx.fi hl).2 (h.1.le hk) (h.2.le hk) h0
theorem Adf (N:w8 L) {a:Rat} {w:AM} {k l:Nat} (ha:Bt k a) (hw:w.Fit l) (hk:k+l<1000000000000):Ev L 258 [.agg (eQ a),.agg (eW w)] (.agg (eQ (N8 a w.v))):=by
 have hS:=UZ N.toa4 ha (by omega);have hs:=RS (x:=a);have hb:=hw.1;generalize n6 a.num=s at *;refine Ev.x N.L3 rfl rfl ?_;by_cases h0:a=0
 ·have hA:=Yc N hw.2 (by omega)
  have bp:=hs.2 h0;unfold N8;rw[if_pos h0];have m5:=DJ (GZ w.v);generalize GZ w.v=y at *;(repeat' ((first|(apply AG<;>intro hc<;>try omega)|apply AE|refine AD (hS) ?_|refine AD (hA) ?_)<;>conv=>whnf))
  exact AX rfl m5
 ·have bp:s≠0:=λ e=>h0 (hs.1 e)
  unfold N8;rw[if_neg h0];by_cases ql:w.v=0
  ·have hD:=Adg N.toa4 ha hw.2 (by omega) (by omega) ql
   rw[if_pos ql];(repeat' ((first|(apply AG<;>intro hc<;>try omega)|apply AE|refine AD (hS) ?_|refine AD (hD) ?_)<;>conv=>whnf))
   exact AX rfl (DJ _)
  ·have hD:=Adj N.toa4 ha hw.2 (by omega) (by omega) ql
   have k8:=bS h0 ql;have bb:=ha.ik hb;have hP:=oI N bb (by omega);have Ce:=sM k8;have As:=SV N.toa4 ha bb.ym (by omega) (by omega) Ce;have hA:=Yb N (ha.ik bb.ym) (by omega);rw[if_neg ql];generalize a/w.v=c at *;generalize ((c.num:Int):Rat)=nn at *;generalize (((c.den:Nat):Int):Rat)=dd at *;generalize a/nn=e at *;(repeat' ((first|(apply AG<;>intro hc<;>try omega)|apply AE|refine AD (hS) ?_|refine AD (hD) ?_|refine AD (hP) ?_|refine AD (As) ?_|refine AD (hA) ?_)<;>conv=>whnf))
   exact AX rfl (DJ _)
theorem Zf (N:w8 L) (q:Bool) (pw:List AM) (k:Nat) (gk:pw.length<=12) (hf : ∀ w∈pw,w.Fit k) (hk:k<=10000000):Ev L 259 [.sl q (pw.map eW)] (.e6 [.agg (eQ (E1 (CP (pw.map AM.v)))),.sl false (((CP (pw.map AM.v)).map (· / E1 (CP (pw.map AM.v)))).map eQ)]):=by
 have hO:=O2 N.toa4 0 (by omega);obtain ⟨l,hle⟩ : ∃ l,l=pw.map AM.v:=⟨_,rfl⟩;have rz:l.length=pw.length:=by rw[hle,List.length_map]
 have Fw : ∀ (i:Nat) (w:AM),pw[i]? = some w->l[i]? = some w.v:=λ i w h=>by rw[hle,List.getElem?_map,h];rfl
 have jg:Bs k l:=λ x hx=>by
  rw[hle]at hx;obtain ⟨w,hw,rfl⟩:=List.mem_map.1 hx;exact (hf w hw).1
 rw[<-hle];have m5:=OY l l.length;obtain ⟨pt,Gm⟩ : ∃ pt,pt=pw.take (C8 l l.length):=⟨_,rfl⟩;have Lt:CP l=pt.map AM.v:=by rw[CP,Gm,List.map_take,<-hle]
 have AnC:pt.length=C8 l l.length:=by rw[Gm,List.length_take];omega
 have Pn : ∀ w∈pt,w.Fit k:=λ w hw=>hf w (List.mem_of_mem_take (Gm ▸ hw))
 obtain ⟨p,cq⟩ : ∃ p,p=CP l:=⟨_,rfl⟩;have hp:CP p=p:=by rw[cq];exact wP l
 have Px:p.length=pt.length:=by rw[cq,Lt,List.length_map]
 have hb:Bs k p:=by rw[cq];exact jg.trim
 have x8 : ∀ (i:Nat) (w:AM),pt[i]? = some w->p[i]? = some w.v:=λ i w h=>by rw[cq,Lt,List.getElem?_map,h];rfl
 have Cd : ∀ i,Bt (4096*k) (E1 (p.take i)):=λ i=>by
  by_cases hi:i<=12
  ·refine (YM hb i).le (zR k ?_)
   have:2^i<=2^12:=Nat.pow_le_pow_right (by omega) hi
   omega
  ·rw[zT (by omega)]
   have:=YM hb p.length
   rw[zT (Nat.le_refl _)]at this;refine this.le (zR k ?_);have:2^p.length<=2^12:=Nat.pow_le_pow_right (by omega) (by omega)
   omega
 have hmn:=rL hp;have bm:(p.map (· / E1 p)).length=p.length:=List.length_map ..;have bd : ∀ (i:Nat) (w:AM),pt[i]? = some w->(p.map (· / E1 p))[i]? = some (w.v/E1 p):=λ i x hx=>by rw[List.getElem?_map,x8 i x hx];rfl
 have hmp : ∀ (x:Rat),x∈p->E1 p≠0:=λ x hx=>by
  rcases hmn with h|h
  ·rw[h]at hx;cases hx
  ·exact h
 have Ep:=Cd p.length;rw[List.take_length]at Ep;rw[<-cq];have u7 : ∀ {n:Nat},C8 l l.length=n->pw.take n=pt:=λ h=>by rw[Gm,h]
 clear Lt cq Gm;refine Ev.x N.L5 rfl rfl ?_;(repeat' (apply AE<;>conv=>whnf))
 refine FW 1000 N.JA rfl rfl ?_;(repeat' ((first|apply AU|apply AE)<;>conv=>whnf))
 refine C5 (λ n=>n) (λ(n:Nat)=>n<=pw.length/\C8 l l.length=C8 l n) (λ n=>[(3,.int .i64 n)]) (λ_=>[]) pw.length ⟨Nat.le_refl _,by rw[rz]⟩ ?_;intro n ⟨n1,n2⟩ ih;by_cases hz:n=0\/(∃ m x,n=m+1/\pw[m]? = some x/\x.v≠0)
 ·have pg:C8 l l.length=n:=by
   rw[n2];rcases hz with rfl|⟨m,x,rfl,h1,h2⟩
   ·rfl
   ·rw[C8,if_neg]
    rw[List.getD_eq_getElem?_getD,Fw m x h1];exact h2
  have Du:=u7 pg;have ix:pt.length=n:=by omega
  clear ih n2 u7;rcases hz with h0|⟨m,x,Pz,h1,h2⟩
  case' inl =>
   (repeat' ((first|(apply AG<;>intro hc<;>try omega)|apply AE)<;>conv=>whnf))
   clear h0 hc
  case' inr =>
   have xa:pw[((n:Int)-1).toNat]? = some x:=by rw[show ((n:Int)-1).toNat=m by omega];exact h1
   have hS:=cY N.toa4 (hf x (zM h1)).2 (by omega);have hs:=RS (x:=x.v);generalize n6 x.v.num=s at *;have bp:s≠0:=λ e=>h2 (hs.1 e)
   (repeat' ((first|(apply AG<;>intro hc<;>try omega)|(apply B1;omega)|(refine BA (by assumption) ?_ rfl ?_;omega)|apply AE|refine AD (hS) ?_)<;>conv=>whnf))
  all_goals
   refine OR (enc:=eW) (z:=3) (λ_=>rfl) (by omega) ?_;rw[Du];(conv=>whnf)
   refine ⟨rfl,_,rfl,?_⟩;(conv=>whnf)
   (repeat' ((first|apply AU|refine AD (hO) ?_)<;>conv=>whnf))
   refine EI (λ i=>pt.length-i) (λ(i:Nat)=>i<=pt.length) (λ i=>[(15,.int .i64 i)]) (λ i=>[(4,4,.bx (eQ (E1 (p.take i))))]) [] [] 0 (by first|exact (by (conv=>whnf);exact ⟨rfl,rfl,rfl⟩)|(rw[List.take_zero];exact (by (conv=>whnf);exact ⟨rfl,rfl,rfl⟩))) (by omega) ?_;intro i p1 ih;by_cases hi:i<pt.length
   ·obtain ⟨x,hx⟩ : ∃ x,pt[i]? = some x:=⟨_,zE hi⟩
    have mi:pt[(i:Int).toNat]? = some x:=hx;have hC:=Adf N (Cd i) (Pn x (zM hx)) (by omega);rw[<-rK (x8 i x hx)]at hC;generalize E1 (p.take i)=m0 at *;generalize gq:E1 (p.take (i+1))=m1 at hC;(repeat' ((first|(apply AG<;>intro hc<;>try omega)|(apply AZ;omega)|(refine BA (by assumption) ?_ rfl ?_;omega)|apply AE|refine AD (hC) ?_)<;>conv=>whnf))
    subst gq;exact BM [] (ih (i+1) (by omega) (by omega))
   have ei:i=pt.length:=by omega
   clear ih;rw[ei,zT (by omega)];generalize Hk:E1 p=M at *;(repeat' ((first|(apply AG<;>intro hc<;>try omega)|apply AU|apply AE)<;>conv=>whnf))
   refine EJ (enc:=eO) none pt.length rfl rfl (by omega) ?_;(conv=>whnf)
   (repeat' (apply AU<;>conv=>whnf))
   refine EI (λ i=>pt.length-i) (λ(i:Nat)=>i<=pt.length) (λ i=>[(28,.int .i64 i)]) (λ i=>[(25,25,.rw 3 ((C0 ((p.map (· / M)).take i) pt.length).map eO))]) [] [] 0 (by first|exact (by (conv=>whnf);exact ⟨rfl,rfl,rfl⟩)|(rw[List.take_zero,<-JZ];exact (by (conv=>whnf);exact ⟨rfl,rfl,rfl⟩))) (by omega) ?_;intro e e1 eh;have Dk:=HT (l:=(p.map (· / M)).take e) (m:=pt.length) (by rw[List.length_take];omega);by_cases Fo:e<pt.length
   ·obtain ⟨x,hx⟩ : ∃ x,pt[e]? = some x:=⟨_,zE Fo⟩
    have mi:pt[(e:Int).toNat]? = some x:=hx;have hxf:=Pn x (zM hx);have hD:=Adi N.toa4 hxf.2 Ep (by omega) (by omega) (hmp x.v (zM (x8 e x hx)));have g8:=IH (l:=(p.map (· / M)).take e) (m:=pt.length) (x:=x.v/M) (by rw[List.length_take];omega);rw[List.length_take,Nat.min_eq_left (by omega),<-HK (bd e x hx)]at g8;generalize C0 ((p.map (· / M)).take e) pt.length=F0 at *;generalize x.v/M=xm at *;(repeat' ((first|(apply AG<;>intro hc<;>try omega)|(apply AY;omega)|(refine BA (by assumption) ?_ rfl ?_;omega)|apply AE|refine AD (hD) ?_)<;>conv=>whnf))
    refine ET (enc:=eO) (some xm) rfl (λ e=>by cases e<;>rfl) (by omega) ?_;(conv=>whnf)
    rw[g8];(repeat' ((first|(apply AZ;omega)|fail)<;>conv=>whnf))
    exact BM [] (eh (e+1) (by omega) (by omega))
   have ee:e=pt.length:=by omega
   clear eh;rw[ee,zT (by omega),JY (bm.trans Px),<-Px];(repeat' ((first|(apply AG<;>intro hc<;>try omega)|(refine EE (λ_=>rfl) rfl ?_ ?_;(first|rfl|simp))|apply AE)<;>conv=>whnf))
   refine AX rfl ?_;simp only[A2,B8,and_true,true_and];exact ⟨⟨B5 _,B5 _⟩,IZ _⟩
 ·obtain ⟨m,rfl⟩ : ∃ m,n=m+1:=⟨n-1,by omega⟩
  obtain ⟨x,hx⟩ : ∃ x,pw[m]? = some x:=⟨_,zE (by omega)⟩;have mj:x.v=0:=by
   rcases Classical.em (x.v=0) with h|h
   ·exact h
   ·exact (hz (Or.inr ⟨m,x,rfl,hx,h⟩)).elim
  have mi:pw[((m+1:Nat)-1:Int).toNat]? = some x:=by rw[show ((m+1:Nat)-1:Int).toNat=m by omega];exact hx
  have hS:=cY N.toa4 (hf x (zM hx)).2 (by omega);have hs:=RS (x:=x.v);have hlx:=Fw m x hx;generalize n6 x.v.num=s at *;have bp:=hs.2 mj;(repeat' ((first|(apply AG<;>intro hc<;>try omega)|(apply B1;omega)|(refine BA (by assumption) ?_ rfl ?_;omega)|apply AE|refine AD (hS) ?_)<;>conv=>whnf))
  rw[show ((m+1:Nat):Int)-1=(m:Int) by omega];exact BM [] (ih m (by omega) ⟨by omega,by rw[n2,C8,if_pos (by rw[List.getD_eq_getElem?_getD,hlx];exact mj)]⟩)
theorem Zt (N:w8 L) (q:Bool) (pw:List AM) (xw:AM) (k j:Nat) (gk:pw.length<=12) (hf : ∀ w∈pw,w.Fit k) (qu:xw.Fit j) (hk:k<=10000000) (hj:j<=10000000):Ev L 260 [.sl q (pw.map eW),.agg (eW xw)] (.agg (eQ (BF (pw.map AM.v) xw.v))):=by
 have Ba:=Zf N q pw k gk hf hk;have Ez:=Zk N.toa4 qu.2 (by omega);have hx:=qu.1;rw[<-Ya];have hb:Bs k (CP (pw.map AM.v)):=Bs.trim λ x hx=>by
  obtain ⟨w,hw,rfl⟩:=List.mem_map.1 hx;exact (hf w hw).1
 have hp:=wP (pw.map AM.v);have hl:(CP (pw.map AM.v)).length<=12:=by
  rw[R4];have:=OY (pw.map AM.v) (pw.map AM.v).length
  rw[List.length_map]at *;omega
 generalize CP (pw.map AM.v)=p at *;generalize xw.v=x at *;have hPa:=oI N hx (by omega);have hO:=O2 N.toa4 0 (by omega);have hI:=O2 N.toa4 1 (by omega);have w4:=Afz hp x;have Ep:=YM hb p.length;rw[List.take_length]at Ep;have Er:Bt (4096*k) (E1 p):=Ep.le (zR k (by
  have:2^p.length<=2^12:=Nat.pow_le_pow_right (by omega) hl
  omega))
 have gx:Bs (4097*k) (p.map (· / E1 p)):=λ y hy=>by
  obtain ⟨z,hz,rfl⟩:=List.mem_map.1 hy;exact ((hb z hz).ik Er).le (by omega)
 have Ae:(p.map (· / E1 p)).length=p.length:=List.length_map ..;have Fm:((((x.den:Nat):Int):Rat))≠0:=λ e=>by
  have:((((x.den:Nat):Int):Rat))=((0:Int):Rat):=e
  have:=Rat.intCast_inj.1 this
  have:=x.den_pos
  omega
 have Cf:((x.num:Int):Rat)=x*(((x.den:Nat):Int):Rat):=by rw[Rat.intCast_natCast];exact (VD x).symm
 have me:=hx.ym;have bb:=hx.Jf;generalize p.map (· / E1 p)=w at *;generalize E1 p=M at *;generalize ((x.num:Int):Rat)=nn at *;generalize (((x.den:Nat):Int):Rat)=dd at *;rw[<-w4];generalize hn:w.length=n at *;refine Ev.x N.L1 rfl rfl ?_;(repeat' ((first|apply AU|apply AE|refine AD (Ba) ?_|refine AD (Ez) ?_|refine AD (hPa) ?_|refine AD (hO) ?_|refine AD (hI) ?_)<;>conv=>whnf))
 refine FV (λ i _ _=>n-i) (λ(i:Nat) (s pw:Rat)=>i<=n/\pw≠0/\s=pw*BF (w.drop (n-i)) x/\Bt (i*j) pw/\Bt (i*(13*j+4097*k+1)) s) (λ i _ _=>[(31,.int .i64 i)]) (λ_ s pw=>[(9,9,.bx (eQ s)),(10,10,.bx (eQ pw))]) 0 ((0:Int):Rat) ((1:Int):Rat) ⟨by omega,by decide,by rw[Nat.sub_zero,List.drop_of_length_le (by omega)];exact (Rat.mul_zero _).symm,by rw[Nat.zero_mul];exact Bt.one 0,by rw[Nat.zero_mul];exact Bt.zero 0⟩ ?_;intro i s pw ⟨p1,p2,p3,p4,p5⟩ ih;by_cases hi:i<n
 ·obtain ⟨c,bh⟩ : ∃ c,w[n-1-i]? = some c:=⟨_,zE (by omega)⟩
  have Kp:w[((w.length:Int)-1-i).toNat]? = some c:=by rw[show ((w.length:Int)-1-i).toNat=n-1-i by omega];exact bh
  have jd:=gx.at bh;have je:=nJ x bh;rw[show n-1-i+1=n-i by omega,show n-1-i=n-(i+1) by omega]at je;have qt:i*j<=11*j:=zR j (by omega);obtain ⟨KK,hKK⟩ : ∃ KK,KK=13*j+4097*k+1:=⟨_,rfl⟩;rw[<-hKK]at p5 ih;have Fh:i*KK<=11*KK:=zR _ (by omega);by_cases h0:i=0
  ·have bp:s=0:=by
    rw[p3,h0,Nat.sub_zero,List.drop_of_length_le (by omega)];exact Rat.mul_zero _
   have bg:=G3 N.toa4 p5 me (by omega) (by omega);have y8:=G3 N.toa4 jd p4 (by omega) (by omega);have Ek:=Q6 N.toa4 (p5.mul me) (jd.mul p4) (by omega) (by omega);have fu:s*nn+c*pw=pw*BF (w.drop (n-(i+1))) x:=by
    rw[je,h0,Nat.sub_zero,List.drop_of_length_le (show w.length<=n by omega),bp,BF];grind
   have o7:Bt ((i+1)*KK) (s*nn+c*pw):=((p5.mul me).add (jd.mul p4)).le (by rw[Nat.add_mul,Nat.one_mul];omega);generalize s*nn=sn at *;generalize c*pw=cp at *;generalize sn+cp=s2 at *;(repeat' ((first|(apply AG<;>intro hc<;>try omega)|(apply AZ;omega)|(apply B1;omega)|apply AU|(refine BA (by assumption) ?_ rfl ?_;omega)|apply AE|refine AD (bg) ?_|refine AD (y8) ?_|refine AD (Ek) ?_)<;>conv=>whnf))
   exact BM [] (ih (i+1) s2 pw (by omega) ⟨by omega,p2,fu,p4.le (by rw[Nat.add_mul,Nat.one_mul];omega),o7⟩)
  ·have yw:=G3 N.toa4 p4 bb (by omega) (by omega)
   have hpd:pw*dd≠0:=λ e=>by
    rcases Rat.mul_eq_zero.1 e with e|e
    ·exact p2 e
    ·exact Fm e
   have p6:Bt ((i+1)*j) (pw*dd):=(p4.mul bb).le (by rw[Nat.add_mul,Nat.one_mul];omega);have Am6:(i+1)*j=i*j+j:=by rw[Nat.add_mul,Nat.one_mul]
   have fu:s*nn+c*(pw*dd)=pw*dd*BF (w.drop (n-(i+1))) x:=by
    rw[je,p3,Cf];grind
   generalize pw*dd=pd at *;have bg:=G3 N.toa4 p5 me (by omega) (by omega);have y8:=G3 N.toa4 jd p6 (by omega) (by omega);have Ek:=Q6 N.toa4 (p5.mul me) (jd.mul p6) (by omega) (by omega);have o7:Bt ((i+1)*KK) (s*nn+c*pd):=((p5.mul me).add (jd.mul p6)).le (by rw[Nat.add_mul i 1 KK,Nat.one_mul];omega);generalize s*nn=sn at *;generalize c*pd=cp at *;generalize sn+cp=s2 at *;(repeat' ((first|(apply AG<;>intro hc<;>try omega)|(apply AZ;omega)|(apply B1;omega)|apply AU|(refine BA (by assumption) ?_ rfl ?_;omega)|apply AE|refine AD (yw) ?_|refine AD (bg) ?_|refine AD (y8) ?_|refine AD (Ek) ?_)<;>conv=>whnf))
   exact BM [] (ih (i+1) s2 pd (by omega) ⟨by omega,hpd,fu,p6,o7⟩)
 ·have ei:i=n:=by omega
  clear ih;have hval:s/pw=BF w x:=by
   rw[p3,ei,Nat.sub_self,List.drop_zero];have:=Rat.mul_inv_cancel pw p2
   rw[Rat.div_def];grind
  have qt:i*j<=12*j:=zR j (by omega);have Fh:i*(13*j+4097*k+1)<=12*(13*j+4097*k+1):=zR _ (by omega);have hD:=SV N.toa4 p5 p4 (by omega) (by omega) p2;have hM:=G3 N.toa4 Er (p5.ik p4) (by omega) (by omega);rw[hval]at hD hM;generalize BF w x=val at *;generalize M*val=mv at *;(repeat' ((first|(apply AG<;>intro hc<;>try omega)|apply AE|refine AD (hD) ?_|refine AD (hM) ?_)<;>conv=>whnf))
  exact AX rfl (DJ _)
def Tf {α:Type} (a:List (List α)) (n w:Nat):Prop:=a.length=n/\(∀ r∈a,r.length=w)/\(1<=n/\n<=52)/\1<=w/\w<=52
def J9 {α:Type} (a:List (List α)):Bool:=decide (1<=a.length/\a.length<=52)&&(decide (1<=(a.headD []).length/\(a.headD []).length<=52)&&a.all λ r=>decide (r.length=(a.headD []).length))
theorem Agw {α:Type} {a:List (List α)}:J9 a=true ↔ ∃ n w,Tf a n w:=by
 constructor
 ·intro h
  simp only[J9,Bool.and_eq_true,decide_eq_true_eq,List.all_eq_true]at h;exact ⟨a.length,(a.headD []).length,rfl,h.2.2,h.1,h.2.1⟩
 ·rintro ⟨n,w,h1,h2,h3,h4⟩
  have hd:(a.headD []).length=w:=by
   cases a with
   | nil=>simp at h1;omega
   | cons r a=>exact h2 r (by simp)
  simp only[J9,Bool.and_eq_true,decide_eq_true_eq,List.all_eq_true];rw[hd,h1];exact ⟨h3,h4,h2⟩
theorem tW {α:Type} {a:List (List α)} {r:List α} (h:a[0]? = some r):a.headD []=r:=by
 cases a with
 | nil=>simp at h
 | cons x a=>simpa using h
theorem W6 {α:Type} {p:α->Bool} {l:List α} {i:Nat} {x:α} (hx:l[i]? = some x) (h:p x=false):l.all p=false:=by
 rw[List.all_eq_false];exact ⟨x,zM hx,by rw[h];decide⟩
theorem W5 {α:Type} {p:α->Bool} {l:List α} (h : ∀ (j:Nat) (x:α),l[j]? = some x->p x=true):l.all p=true:=by
 rw[List.all_eq_true];intro x hx;obtain ⟨j,hj⟩:=List.getElem?_of_mem hx;exact h j x hj
theorem Adr (N:o4 L) (q q':Bool) (a:List (List AM)) (hn:a.length<=100000) (hr : ∀ r∈a,r.length<=100000):Ev L 229 [.sl q (FE q' a)] (.bool (J9 a)):=by
 by_cases h0:1<=a.length/\a.length<=52
 ·obtain ⟨r0,u4⟩ : ∃ r,a[0]? = some r:=⟨_,zE (by omega)⟩
  have Ck:a[(0:Int).toNat]? = some r0:=u4;have gk:=hr r0 (zM u4);have hB:J9 a=(decide (1<=r0.length/\r0.length<=52)&&a.all λ r=>decide (r.length=r0.length)):=by
   rw[J9,decide_eq_true h0,Bool.true_and,tW u4]
  rw[hB];refine Ev.x N.I5 rfl rfl ?_;(repeat' ((first|(apply AG<;>intro hc<;>try omega)|apply AU|(refine BA (by assumption) ?_ rfl ?_;omega)|apply AE)<;>conv=>whnf))
  refine C5 (λ i=>a.length-i) (λ(i:Nat)=>i<=a.length /\ ∀ j x,j<i->a[j]? = some x->x.length=r0.length) (λ i=>[(20,.int .i64 i)]) (λ_=>[]) 0 ⟨by omega,by omega⟩ ?_;intro i ⟨p1,p2⟩ ih;by_cases hi:i<a.length
  ·obtain ⟨r,w6⟩ : ∃ r,a[i]? = some r:=⟨_,zE (by omega)⟩
   have sf:a[(i:Int).toNat]? = some r:=w6;have hl:=hr r (zM w6);by_cases he:r.length=r0.length
   ·(repeat' ((first|(apply AG<;>intro hc<;>try omega)|(apply AZ;omega)|apply AU|(refine BA (by assumption) ?_ rfl ?_;omega)|apply AE)<;>conv=>whnf))
    exact BM [] (ih (i+1) (by omega) ⟨by omega,λ j x hj hx=>by
     by_cases e:j=i
     ·subst e;rw[w6]at hx;obtain rfl:=Option.some.inj hx;exact he
     ·exact p2 j x (by omega) hx⟩)
   ·rw[W6 w6 (decide_eq_false he),Bool.and_false]
    (repeat' ((first|(apply AG<;>intro hc<;>try omega)|apply AU|(refine BA (by assumption) ?_ rfl ?_;omega)|apply AE)<;>conv=>whnf))
    exact DM rfl
  ·obtain rfl:i=a.length:=by omega
   clear ih;rw[W5 (p:=λ r=>decide (r.length=r0.length)) λ j x hx=>decide_eq_true (p2 j x (zS hx).1 hx),Bool.and_true];(repeat' ((first|(apply AG<;>intro hc<;>try omega)|apply AE)<;>conv=>whnf))
   all_goals exact DM (by simp;omega)
 ·rw[J9,decide_eq_false h0,Bool.false_and]
  refine Ev.x N.I5 rfl rfl ?_;(repeat' ((first|(apply AG<;>intro hc<;>try omega)|apply AU|apply AE)<;>conv=>whnf))
  all_goals exact DM rfl
theorem tX {α:Type} {a:List (List α)} {n w:Nat} (h:a.length=n) (hw : ∀ r∈a,r.length=w) (h1:1<=n/\n<=52) (h2:1<=w/\w<=52):J9 a=true:=Agw.2 ⟨n,w,h,hw,h1,h2⟩
theorem Adq (N:o4 L) (q q':Bool) (a:List (List AM)) (n w:Nat) (hn:a.length=n) (hw : ∀ r∈a,r.length=w) (h1:1<=n/\n<=52) (h2:1<=w/\w<=52):Ev L 229 [.sl q (FE q' a)] (.bool true):=by
 rw[<-tX hn hw h1 h2];exact Adr N q q' a (by omega) λ r hr=>by rw[hw r hr];omega
theorem AdZ (N:ea L) (q q':Bool) (a:List (List AM)) (hn:a.length<=100000) (hr : ∀ r∈a,r.length<=100000):Ev L 239 [.sl q (FE q' a)] (.bool (J9 a)):=by
 by_cases h0:1<=a.length/\a.length<=52
 ·obtain ⟨r0,u4⟩ : ∃ r,a[0]? = some r:=⟨_,zE (by omega)⟩
  have Ck:a[(0:Int).toNat]? = some r0:=u4;have gk:=hr r0 (zM u4);have hB:J9 a=(decide (1<=r0.length/\r0.length<=52)&&a.all λ r=>decide (r.length=r0.length)):=by
   rw[J9,decide_eq_true h0,Bool.true_and,tW u4]
  rw[hB];by_cases hw:1<=r0.length/\r0.length<=52
  ·rw[decide_eq_true hw,Bool.true_and]
   refine Ev.x N.H4 rfl rfl ?_;(repeat' ((first|(apply AG<;>intro hc<;>try omega)|apply AU|(refine BA (by assumption) ?_ rfl ?_;omega)|apply AE)<;>conv=>whnf))
   refine C5 (λ i=>a.length-i) (λ(i:Nat)=>i<=a.length /\ ∀ j x,j<i->a[j]? = some x->x.length=r0.length) (λ i=>[(29,.int .i64 i)]) (λ_=>[]) 0 ⟨by omega,by omega⟩ ?_;intro i ⟨p1,p2⟩ ih;by_cases hi:i<a.length
   ·obtain ⟨r,w6⟩ : ∃ r,a[i]? = some r:=⟨_,zE (by omega)⟩
    have sf:a[(i:Int).toNat]? = some r:=w6;have hl:=hr r (zM w6);by_cases he:r.length=r0.length
    ·(repeat' ((first|(apply AG<;>intro hc<;>try omega)|(apply AZ;omega)|apply AU|(refine BA (by assumption) ?_ rfl ?_;omega)|apply AE)<;>conv=>whnf))
     exact BM [] (ih (i+1) (by omega) ⟨by omega,λ j x hj hx=>by
      by_cases e:j=i
      ·subst e;rw[w6]at hx;obtain rfl:=Option.some.inj hx;exact he
      ·exact p2 j x (by omega) hx⟩)
    ·rw[W6 w6 (decide_eq_false he)]
     (repeat' ((first|(apply AG<;>intro hc<;>try omega)|apply AU|(refine BA (by assumption) ?_ rfl ?_;omega)|apply AE)<;>conv=>whnf))
     exact DM rfl
   ·obtain rfl:i=a.length:=by omega
    clear ih;rw[W5 (p:=λ r=>decide (r.length=r0.length)) λ j x hx=>decide_eq_true (p2 j x (zS hx).1 hx)];(repeat' ((first|(apply AG<;>intro hc<;>try omega)|apply AE)<;>conv=>whnf))
    all_goals exact DM rfl
  ·rw[decide_eq_false hw,Bool.false_and]
   refine Ev.x N.H4 rfl rfl ?_;(repeat' ((first|(apply AG<;>intro hc<;>try omega)|apply AU|(refine BA (by assumption) ?_ rfl ?_;omega)|apply AE)<;>conv=>whnf))
   all_goals exact DM rfl
 ·rw[J9,decide_eq_false h0,Bool.false_and]
  refine Ev.x N.H4 rfl rfl ?_;(repeat' ((first|(apply AG<;>intro hc<;>try omega)|apply AU|apply AE)<;>conv=>whnf))
  all_goals exact DM rfl
theorem AdY (N:ea L) (q q':Bool) (a:List (List AM)) (n w:Nat) (hn:a.length=n) (hw : ∀ r∈a,r.length=w) (h1:1<=n/\n<=52) (h2:1<=w/\w<=52):Ev L 239 [.sl q (FE q' a)] (.bool true):=by
 rw[<-tX hn hw h1 h2];exact AdZ N q q' a (by omega) λ r hr=>by rw[hw r hr];omega
theorem kW (x:Rat):A2 (.e6 [.agg (eQ x),.int .i64 0]):=by
 simp only[A2,B8,and_true,true_and];exact ⟨B5 _,B5 _⟩
structure aE (B:Nat) (g:List Pt):Prop where
 len:1<=g.length/\g.length<=12
 lt:(g.map (·.x)).Pairwise (· < ·)
 pos : ∀ p∈g,0<p.w
 bx : ∀ p∈g,Bt B p.x
 qg : ∀ p∈g,Bt B p.y
 bw : ∀ p∈g,Bt B p.w
theorem aE.Ee {B:Nat} {g:List Pt} (h:aE B g) {i:Nat} {p:Pt} (hp:g[i]? = some p):Bt B p.x/\Bt B p.y/\Bt B p.w/\0<p.w :=
 have hm:=zM hp;⟨h.bx p hm,h.qg p hm,h.bw p hm,h.pos p hm⟩
theorem uP {x:Rat} (h:0<x):0<n6 x.num:=by
 have h1:0<x.num:=by
  have h2:=Rat.num_nonneg.2 (Rat.le_of_lt h);have h3:x.num≠0:=λ e=>by
   rw[Rat.num_eq_zero.1 e]at h;exact absurd h (Rat.lt_irrefl)
  omega
 unfold n6;split<;>(try split)<;>omega
theorem uO {x y:Rat} (h:x<y):n6 (x-y).num<0:=by
 have h2:(x-y).num<0:=by
  rcases Int.lt_or_le (x-y).num 0 with h1|h1
  ·exact h1
  ·have:=Rat.num_nonneg.1 h1
   grind
 unfold n6;split<;>(try split)<;>omega
theorem Adl (N:j8 L) (q:Bool) (g:List Pt) (B:Nat) (hg:aE B g) (hB:B<=1000000):Ev L 261 [.sl q (g.map eP)] (.bool true):=by
 have hlen:=hg.len;refine Ev.x N.I4 rfl rfl ?_;(repeat' ((first|(apply AG<;>intro hc<;>try omega)|apply AU|apply AE)<;>conv=>whnf))
 refine C5 (λ i=>g.length-i) (λ(i:Nat)=>i<=g.length) (λ i=>[(15,.int .i64 i)]) (λ_=>[]) 0 (by omega) ?_;intro i p1 ih;by_cases hi:i<g.length
 ·obtain ⟨p,hp⟩ : ∃ p,g[i]? = some p:=⟨_,zE hi⟩
  have wj:g[(i:Int).toNat]? = some p:=hp;obtain ⟨b1,b2,b3,b4⟩:=hg.Ee hp;have hS:=UZ N.toa4 b3 (by omega);have hs:=uP b4;generalize n6 p.w.num=s at *;by_cases h0:i=0
  ·(repeat' ((first|(apply AG<;>intro hc<;>try omega)|(apply AZ;omega)|(refine BA (by assumption) ?_ rfl ?_;omega)|apply AE|refine AD (hS) ?_)<;>conv=>whnf))
   exact BM [] (ih (i+1) (by omega) (by omega))
  ·obtain ⟨p0,cq⟩ : ∃ p,g[i-1]? = some p:=⟨_,zE (by omega)⟩
   have Ch:g[((i:Int)-1).toNat]? = some p0:=by rw[show ((i:Int)-1).toNat=i-1 by omega];exact cq
   have g9:p0.x<p.x:=by
    have:=hg.lt
    rw[List.pairwise_map,List.pairwise_iff_getElem]at this;have h:=this (i-1) i (by omega) (by omega) (by omega);rw[zE (by omega)]at hp cq;rw[Option.some.inj hp,Option.some.inj cq]at h;exact h
   have hC:=Adb N.toz8 (hg.Ee cq).1 b1 (by omega) (by omega);have hc:=uO g9;generalize n6 (p0.x-p.x).num=c at *;(repeat' ((first|(apply AG<;>intro hc<;>try omega)|(apply AZ;omega)|(apply B1;omega)|(refine BA (by assumption) ?_ rfl ?_;omega)|apply AE|refine AD (hS) ?_|refine AD (hC) ?_)<;>conv=>whnf))
   exact BM [] (ih (i+1) (by omega) (by omega))
 ·have ei:i=g.length:=by omega
  clear ih;(repeat' ((first|(apply AG<;>intro hc<;>try omega)|apply AE)<;>conv=>whnf))
  exact DM rfl
def eG (xs ys ws:List Rat) (sx sy:Rat):List AV:=[AV.sl false (xs.map eQ),AV.sl false (ys.map eQ),AV.sl false (ws.map eQ)]++(eQ sx++eQ sy)
theorem Adx (N:a5 L) {w:AM} {x:Rat} {k l:Nat} (hx:Bt l x) (h:w.Sz k) (hl:l<2199023255552) (hk:k<=68719476736):Ev L 128 [.agg (eQ x),.agg (eW w)] (.agg (eQ (x*w.v))):=by
 have:=UW N (FL hx hl).2 h (Nat.le_refl _) hk
 rw[KB]at this;exact this
theorem Xc (N:a5 L) {w:AM} {x:Rat} {k l:Nat} (hx:Bt l x) (h:w.Sz k) (hl:l<2199023255552) (hk:k<=68719476736):Ev L 126 [.agg (eQ x),.agg (eW w)] (.agg (eQ (x+w.v))):=by
 have:=X7 N (FL hx hl).2 h (Nat.le_refl _) hk
 rw[KB]at this;exact this
theorem AdV (N:au L) (q:Bool) (pw:List AM) (xw:AM) (k j:Nat) (gk:pw.length<=12) (hf : ∀ w∈pw,w.Fit k) (qu:xw.Fit j) (hk:k<=10000000) (hj:j<=10000000):Ev L 267 [.sl q (pw.map eW),.agg (eW xw)] (.agg (eQ (BF (pw.map AM.v) xw.v))):=by
 have hO:=UX N.toa5 0 (by omega);have hb:Bs k (pw.map AM.v):=λ x hx=>by
  obtain ⟨w,hw,rfl⟩:=List.mem_map.1 hx;exact (hf w hw).1
 have x8 : ∀ (i:Nat) (w:AM),pw[i]? = some w->(pw.map AM.v)[i]? = some w.v:=λ i w h=>by rw[List.getElem?_map,h];rfl
 have ix:(pw.map AM.v).length=pw.length:=List.length_map ..;generalize pw.map AM.v=p at *;have Bi : ∀ r,Bt (12*(k+j+1)) (BF (p.drop r) xw.v):=λ r=>(US qu.1 λ z hz=>hb z (List.mem_of_mem_drop hz)).le (zR _ (by rw[List.length_drop];omega))
 refine Ev.x N.NE rfl rfl ?_;(repeat' ((first|(apply B1;omega)|apply AU|apply AE|refine AD (hO) ?_)<;>conv=>whnf))
 refine EI (λ r=>r) (λ(r:Nat)=>r<=pw.length) (λ r=>[(6,.int .i64 ((r:Int)-1))]) (λ r=>[(5,5,.bx (eQ (BF (p.drop r) xw.v)))]) [] [] pw.length (by first|exact (by (conv=>whnf);exact ⟨rfl,rfl,rfl⟩)|(rw[List.drop_of_length_le (by omega)];exact (by (conv=>whnf);exact ⟨rfl,rfl,rfl⟩))) (Nat.le_refl _) ?_;intro r p1 ih;by_cases hr:0<r
 ·obtain ⟨c,bh⟩ : ∃ c,pw[r-1]? = some c:=⟨_,zE (by omega)⟩
  have Kp:pw[((r:Int)-1).toNat]? = some c:=by rw[show ((r:Int)-1).toNat=r-1 by omega];exact bh
  have je:=nJ xw.v (x8 _ c bh);rw[show r-1+1=r by omega]at je;have hM:=Adx N.toa5 (Bi r) qu.2 (by omega) (by omega);have hA:=Xc N.toa5 ((Bi r).mul qu.1) (hf c (zM bh)).2 (by omega) (by omega);rw[show BF (p.drop r) xw.v*xw.v+c.v=BF (p.drop (r-1)) xw.v by rw[je];grind]at hA;generalize hs:BF (p.drop r) xw.v=s at *;generalize ve:BF (p.drop (r-1)) xw.v=s2 at hA;generalize s*xw.v=sx at *;(repeat' ((first|(apply AG<;>intro hc<;>try omega)|(apply B1;omega)|(refine BA (by assumption) ?_ rfl ?_;omega)|apply AE|refine AD (hM) ?_|refine AD (hA) ?_)<;>conv=>whnf))
  subst ve;rw[show (r:Int)-1-1=((r-1:Nat):Int)-1 by omega];exact BM [] (ih (r-1) (by omega) (by omega))
 ·have er:r=0:=by omega
  clear ih;rw[er,List.drop_zero];(repeat' ((first|(apply AG<;>intro hc<;>try omega)|apply AE)<;>conv=>whnf))
  exact AX rfl (DJ _)
end Go.b8
