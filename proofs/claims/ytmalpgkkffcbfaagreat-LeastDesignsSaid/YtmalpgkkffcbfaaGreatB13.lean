/-
  Arguments of the laws, as owned: lists of numbers, raw rational numbers and matrices of them.
-/
import Derived.Test.YtmalpgkkffcbfaaGreatB10
import Derived.Test.YtmalpgkkffcbfaaGreatB11
import Derived.Test.YtmalpgkkffcbfaaGreatB12
import Derived.Test.YtmalpgkkffcbfaaGreatB8
import Derived.Test.YtmalpgkkffcbfaaGreatB2
import Derived.Test.YtmalpgkkffcbfaaGreatB7
set_option linter.unusedSimpArgs false
set_option linter.unusedVariables false
set_option linter.unnecessarySimpa false
namespace Go.b8
theorem U8 {α:Type} {enc:α->List AV} {p:α->Prop} {e:Ty} {cs:List AV} (he : ∀ x,FK false e x -> ∃ y,x=enc y/\p y) (h:FK false (.sl e) cs) : ∃ l:List α,cs=[.sl false (l.map enc)]/\l.length<9223372036854775808 /\ ∀ y∈l,p y:=by
 obtain ⟨es,rfl,hl,hx⟩:=h;obtain ⟨l,rfl,hp⟩:=rF (enc:=enc) (p:=p) λ x hm=>he x (hx x hm)
 refine ⟨l,rfl,?_,hp⟩;have:maxLen=9223372036854775807:=rfl
 simp at hl;omega
theorem pZ {cs:List AV} (h:FK false tI cs) : ∃ n,cs=GD n/\FQ n:=by obtain ⟨n,rfl,hw⟩:=h;exact ⟨n,rfl,AhH hw⟩
theorem AeI {cs:List AV} (h:FK false (.sl tI) cs) : ∃ l:List Int,cs=[.sl false (l.map GD)]/\l.length<9223372036854775808 /\ ∀ v∈l,FQ v:=U8 (λ_=>pZ) h
theorem qA {cs:List AV} (h:FK false (.int .u32) cs) : ∃ n:Nat,cs=AL n/\n<4294967296:=by
 obtain ⟨n,rfl,hw⟩:=h;simp only[Lit.wf,Bool.and_eq_true,decide_eq_true_eq]at hw;have h1:IntKind.u32.min=0:=rfl;have h2:IntKind.u32.max=4294967295:=rfl;rw[h1,h2]at hw;obtain ⟨k,rfl⟩ : ∃ k:Nat,n=k:=⟨n.toNat,by omega⟩;exact ⟨k,rfl,by omega⟩
abbrev wD:Ty := .sl (.int .u32)
abbrev V5:Ty := .cons (.cons .bool (.cons wD .nil)) (.cons wD .nil)
def AM.Raw (w:AM):Prop:=(A0 w.m/\w.m.length<9223372036854775808)/\A0 w.d/\w.d.length<9223372036854775808
theorem YG {cs:List AV} (h:FK false V5 cs) : ∃ w:AM,cs=eW w/\w.Raw:=by
 obtain ⟨_,_,rfl,⟨_,_,rfl,⟨b,rfl⟩,_,_,rfl,h1,rfl⟩,_,_,rfl,h2,rfl⟩:=h;obtain ⟨m,rfl,l1,d1⟩:=U8 (enc:=AL) (λ_=>qA) h1;obtain ⟨d,rfl,l2,d2⟩:=U8 (enc:=AL) (λ_=>qA) h2;exact ⟨⟨b,m,d⟩,rfl,⟨d1,l1⟩,d2,l2⟩
theorem AeL {cs:List AV} (h:FK false (.sl V5) cs) : ∃ l:List AM,cs=[.sl false (l.map eW)]/\l.length<9223372036854775808 /\ ∀ w∈l,w.Raw:=U8 (λ_=>YG) h
end Go.b8
namespace Go.b8
open F
set_option maxHeartbeats 8000000
variable {L:Lib}
def QQ (M:Mem):Mem->Prop
 | []=>True
 | (k,s,c)::r=>b7 M k=some (s,c)/\QQ M r
theorem QQ.get {M:Mem} : ∀ {M0:Mem},QQ M M0 -> ∀ k s c,b7 M0 k=some (s,c)->b7 M k=some (s,c)
 | [],_,_,_,_,e=>by cases e
 | (i,s0,c0)::r,h,k,s,c,e=>by
  simp only[b7]at e;cases hb:Nat.beq k i<;>simp only[hb,cond_true,cond_false]at e
  ·exact QQ.get h.2 k s c e
  ·rw[BQ.1 hb,<-e];exact h.1
theorem GC.sub {σ:E0} {own:AH} {M M0:Mem} (h:GC σ own M) (hm:QQ M M0):GC σ own M0:=by
 have hr : ∀ k t c,a7 M0 k t=some c->a7 M k t=some c:=λ k t c e=>by
  obtain ⟨s,c0,g,_⟩:=GF e;have g2:=hm.get k s c0 g;unfold a7 at e ⊢;rw[g]at e;rw[g2];exact e
 exact ⟨λ k s c e=>h.site k s c (hm.get k s c e),λ k t c e=>h.c7 k t c (hr k t c e),λ k t c e=>h.old k t c (hr k t c e),λ k t k' t' c c' e e'=>h.inj k t k' t' c c' (hr k t c e) (hr k' t' c' e'),λ k t c e=>h.low k t c (hr k t c e)⟩
theorem jA {f:Nat} {vs:List AV} {tm:Tm} {M:Mem} {K:AV->Mem->Prop} (h:A4 L f vs tm M λ r M' => ∃ M1,QQ M' M1/\K r M1):A4 L f vs tm M K:=by
 intro σ own hs;obtain ⟨r,k6,σ',M',h1,h2,h3,M1,h4,h5⟩:=h σ own hs;exact ⟨r,k6,σ',M1,h1,h2.sub h4,h3,h5⟩
def Y3 (ks:List Nat):AV->Bool
 | .row k t _ _ _=>Nat.beq t 0&&I7 k ks
 | .ptr k t _ _=>Nat.beq t 0&&I7 k ks
 | _=>true
def VJ (ks:List Nat):List AV->Bool
 | []=>true
 | v::r=>Y3 ks v&&VJ ks r
def fP (ks:List Nat):AV->Bool
 | .agg cs=>VJ ks cs
 | .fn _ _ _ cs=>VJ ks cs
 | v=>Y3 ks v
def Y4 (ks:List Nat):List AV->Bool
 | []=>true
 | v::r=>fP ks v&&Y4 ks r
def fQ (ks:List Nat):AV->Bool
 | .e6 vs=>Y4 ks vs
 | v=>fP ks v
def Y5 (ks:List Nat):Tm->Bool
 | []=>true
 | (_,v)::r=>fQ ks v&&Y5 ks r
theorem rM {k:Nat} : ∀ {l:List Nat},I7 k l=true->k∈l
 | [],h=>by cases h
 | j::r,h=>by
  simp only[I7]at h;cases hb:Nat.beq k j<;>simp only[hb,cond_true,cond_false]at h
  ·exact List.mem_cons_of_mem _ (rM h)
  ·rw[BQ.1 hb];exact List.mem_cons_self
section
variable {ks:List Nat} {σ σ':E0} (hs : ∀ k∈ks,σ' k 0=σ k 0)
include hs
theorem V1 {v:AV} (h:Y3 ks v=true):A7 σ' v=A7 σ v:=by
 cases v<;>try rfl
 all_goals
  simp only[Y3,Bool.and_eq_true]at h;have h1:=BQ.1 h.1;have h2:=hs _ (rM h.2);subst h1;simp only[A7,h2]
theorem iC : ∀ {l:List AV},VJ ks l=true->l.map (A7 σ')=l.map (A7 σ)
 | [],_=>rfl
 | v::r,h=>by
  simp only[VJ,Bool.and_eq_true]at h;rw[List.map_cons,List.map_cons,V1 hs h.1,iC h.2]
theorem iA {v:AV} (h:fP ks v=true):BJ σ' v=BJ σ v:=by
 cases v with
 | agg cs=>simp only[BJ];rw[iC hs h]
 | fn p f g cs=>simp only[BJ];rw[iC hs h]
 | row k t z o n=>exact V1 hs (v := .row k t z o n) h
 | ptr k t i j=>exact V1 hs (v := .ptr k t i j) h
 | _=>rfl
theorem vN : ∀ {l:List AV},Y4 ks l=true->l.map (BJ σ')=l.map (BJ σ)
 | [],_=>rfl
 | v::r,h=>by
  simp only[Y4,Bool.and_eq_true]at h;rw[List.map_cons,List.map_cons,iA hs h.1,vN h.2]
theorem Ahh {v:AV} (h:fQ ks v=true):BG σ' v=BG σ v:=by
 cases v with
 | e6 vs=>simp only[BG];rw[vN hs h]
 | agg cs=>exact iA hs (v := .agg cs) h
 | fn p f g cs=>exact iA hs (v := .fn p f g cs) h
 | row k t z o n=>exact V1 hs (v := .row k t z o n) h
 | ptr k t i j=>exact V1 hs (v := .ptr k t i j) h
 | _=>rfl
end
theorem sX {ks:List Nat} : ∀ {tm:Tm},Y5 ks tm=true -> ∀ j,fQ ks (tg tm j)=true
 | [],_,_=>rfl
 | (i,v)::r,h,j=>by
  simp only[Y5,Bool.and_eq_true]at h;simp only[tg];cases hb:Nat.beq j i<;>simp only[cond_true,cond_false]
  ·exact sX h.2 j
  ·exact h.1
def WB:Nat->List Nat->Tm
 | _,[]=>[]
 | i,k::r=>(i,.ptr k 0 0 0)::WB (i+1) r
abbrev Z0 (ks:List Nat):Tm:=WB 0 ks
theorem wI : ∀ {ks:List Nat} {i k:Nat},k∈ks -> ∃ j,i<=j/\tg (WB i ks) j = .ptr k 0 0 0
 | [],_,_,h=>by cases h
 | j::r,i,k,h=>by
  rcases List.mem_cons.1 h with rfl|e
  ·exact ⟨i,Nat.le_refl _,by simp [WB,tg]⟩
  ·obtain ⟨a,h1,h2⟩:=wI (i:=i+1) e
   refine ⟨a,by omega,?_⟩;simp only[WB,tg];rw[E7.2 (show a≠i by omega),cond_false];exact h2
theorem jB {f:Nat} {vs:List AV} {tm:Tm} {M:Mem} {K:AV->Mem->Prop} (ks:List Nat) (M0:Mem) (hm:QQ M M0) (ht:Y5 ks tm=true) (h:A4 L f vs (Z0 ks) M0 K):A4 L f vs tm M K:=by
 intro σ own hs;obtain ⟨r,k6,σ',M',h1,h2,h3,h4⟩:=h σ own (hs.sub hm);refine ⟨r,k6,σ',M',h1,h2,λ j => ?_,h4⟩;refine Ahh (λ k hk => ?_) (sX ht j);obtain ⟨j,_,hj⟩:=wI (i:=0) hk;have:=h3 j
 rw[show tg (Z0 ks) j=_ from hj]at this;simp only[BG,BJ,A7,AV.ptr.injEq]at this;exact Prod.ext this.1 this.2.1
end Go.b8

namespace Go.b8
open F
attribute [local irreducible] AA AF AQ AC CI AW A5 A9 B4 B3 CE DE BX A3 BW CD AB A4 AJ pw BV BN CS CR C1 CY CT BL DD
set_option maxHeartbeats 16000000
variable {L:Lib}
def KQ (p:Rat) (t:List AM):List AM:=t.map λ x=>GU (x.v/p)
def FZ (f:Rat) (r t:List AM):List AM:=List.zipWith (λ x y=>GU (x.v-f*y.v)) r t
theorem wX (p:Rat) (t:List AM):(KQ p t).map AM.v=(t.map AM.v).map (· / p):=by
 simp only[KQ,List.map_map,Function.comp_def,KB]
theorem iQ (f:Rat) : ∀ r t:List AM,(FZ f r t).map AM.v=qh f (r.map AM.v) (t.map AM.v)
 | [],_=>by simp [FZ,qh]
 | _::_,[]=>by simp [FZ,qh]
 | x::r,y::t=>by
  have:=iQ f r t
  simp only[FZ,qh,List.zipWith_cons_cons,List.map_cons,KB]at this ⊢;rw[this]
theorem Wa {f:Rat} {r t:List AM} (h:r.length=t.length):(FZ f r t).length=r.length:=by simp [FZ,h]
theorem Vz {f:Rat} {r t:List AM} {j:Nat} {x y:AM} (hx:r[j]? = some x) (hy:t[j]? = some y):(FZ f r t)[j]? = some (GU (x.v-f*y.v)):=by
 rw[FZ,List.getElem?_zipWith,hx,hy]
theorem lH {f:Rat} : ∀ {r t:List AM} {z:AM},z∈FZ f r t -> ∃ x∈r,∃ y∈t,z=GU (x.v-f*y.v)
 | [],_,_,h=>by simp [FZ]at h
 | _::_,[],_,h=>by simp [FZ]at h
 | x::r,y::t,z,h=>by
  simp only[FZ,List.zipWith_cons_cons]at h;rcases List.mem_cons.1 h with rfl|h
  ·exact ⟨x,List.mem_cons_self,y,List.mem_cons_self,rfl⟩
  ·obtain ⟨a,ha,b,hb,e⟩:=lH (r:=r) (t:=t) h
   exact ⟨a,List.mem_cons_of_mem _ ha,b,List.mem_cons_of_mem _ hb,e⟩
theorem Z3 (m:List (List AM)) (i:Nat) (r:List AM):vM (m.set i r)=(vM m).set i (r.map AM.v):=by
 rw[vM,vM,List.map_set]
theorem wW {m:List (List AM)} {i:Nat} {r:List Rat} (h:(vM m)[i]? = some r) : ∃ s,m[i]? = some s/\s.map AM.v=r:=by
 rw[vM,List.getElem?_map]at h;cases hm:m[i]? with
 | none=>rw[hm]at h;cases h
 | some s=>rw[hm]at h;exact ⟨s,rfl,Option.some.inj h⟩
theorem YF {r:List AM} {c:Nat} {x:AM} (h:r[c]? = some x):(r.map AM.v).getD c 0=x.v:=by
 rw[List.getD_eq_getElem?_getD,iP h];rfl
theorem AM.Fit.le {w:AM} {k l:Nat} (h:w.Fit k) (hl:k<=l):w.Fit l:=⟨h.1.le hl,h.2⟩
theorem DZ.at {k:Nat} {m:List (List AM)} {i:Nat} {r:List AM} (h:DZ k m) (hr:m[i]? = some r) : ∀ x∈r,x.Fit k:=h r (zM hr)
theorem DZ.le {k l:Nat} {m:List (List AM)} (h:DZ k m) (hl:k<=l):DZ l m:=λ r hr x hx=>(h r hr x hx).le hl
theorem VF {z:Nat} {m:List (List AM)} {i:Nat} {r:List AM} (h:m[i]? = some r):(BK z eW m)[i]? = some (some (z,r.map eW)):=by
 simp only[BK,List.getElem?_map,h,Option.map_some]
theorem AfN {z:Nat} {m:List (List AM)} {i j:Nat} {a b:List AM}:((BK z eW m).set i (some (z,b.map eW))).set j (some (z,a.map eW))=BK z eW ((m.set i b).set j a):=by
 simp only[BK,List.map_set]
theorem Adh (N:e7 L) {x y:AM} (hx:x.Sz 68719476736) (hy:y.Sz 68719476736) (h0:y.v≠0):Ev L 154 [.agg (eW x),.agg (eW y)] (.e6 [.agg (eQ (x.v/y.v)),.int .i64 0]):=by
 obtain ⟨a1,a2,a3,w6,s1,s2,s3,s5⟩:=KS N.toa5 x.n false x.m x.d 68719476736 (by omega) hx.1 hx.2;obtain ⟨b1,b2,b3,z7,t1,t2,t3,t5⟩:=KS N.toa5 y.n false y.m y.d 68719476736 (by omega) hy.1 hy.2;have l1:=s1.2;have l2:=s2.2;have l3:=t1.2;have l4:=t2.2;have s5':x.v=mkRat (zv a1 a2) (val a3):=by rw[AM.v];exact s5
 have Rp:y.v=mkRat (zv b1 b2) (val b3):=by rw[AM.v];exact t5
 have ql:zv b1 b2≠0:=λ h=>h0 (by rw[Rp,h,Rat.zero_mkRat])
 have hS:=λ q=>SX N.toa5 b1 q b2 (t1.le (by omega))
 have sj:n6 (zv b1 b2)≠0:=by unfold n6;split<;>(try split)<;>omega
 have bg:=λ q q'=>O1 N.toa5 a1 false q q' a2 b3 s1.1 t2.1 (by omega)
 have y8:=λ q q'=>O1 N.toa5 false b1 q q' a3 b2 s2.1 t1.1 (by omega)
 have g1:Sm (68719476736+68719476736) (dg (zv a1 a2*zv false b3).natAbs):=PH s1 t2;have g2:Sm (68719476736+68719476736) (dg (zv false a3*zv b1 b2).natAbs):=PH s2 t1;have hR:=λ q q'=>UY N.toa5 (decide (zv a1 a2*zv false b3<0)) (decide (zv false a3*zv b1 b2<0)) q q' _ _ (g1.le (by omega)) (g2.le (by omega))
 rw[ES,ES]at hR;have he:x.v/y.v=Rat.divInt (zv a1 a2*zv false b3) (zv false a3*zv b1 b2):=by rw[s5',Rp,AfF s3 t3 ql,D9,D9]
 rw[he];generalize n6 (zv b1 b2)=sg at *;refine Ev.x N.M5 rfl rfl ?_;(repeat' ((first|(apply AG<;>intro hc<;>try omega)|apply QN|apply AE|refine AD (w6) ?_|refine AD (z7) ?_|refine AD (hS _) ?_|refine AD (bg _ _) ?_|refine AD (y8 _ _) ?_|refine AD (hR _ _) ?_)<;>conv=>whnf))
 exact AX rfl (by simp only[A2,B8,and_true,true_and];exact ⟨B5 _,B5 _⟩)
theorem Zs (N:w7 L) {x y:AM} (hx:x.Sz 68719476736) (hy:y.Sz 68719476736) (h0:y.v≠0):Ev L 276 [.agg (eW x),.agg (eW y)] (.agg (eQ (x.v/y.v))):=by
 have hD:=Adh N.toe7 hx hy h0;refine Ev.x N.NA rfl rfl ?_;(repeat' ((first|(apply AG<;>intro hc<;>try omega)|apply AE|refine AD (hD) ?_)<;>conv=>whnf))
 exact AX rfl (DJ _)
theorem Zi (N:e7 L) {x:AM} {y:Rat} {l:Nat} (hx:x.Sz 68719476736) (hy:Bt l y) (hl:l<2199023255552):Ev L 153 [.agg (eW x),.agg (eQ y)] (.agg (eQ (x.v-y))):=by
 have hn:Bt l (-y):=⟨by rw[Rat.neg_num,Int.natAbs_neg];exact hy.1,by rw[Rat.neg_den];exact hy.2⟩;have hN:=oH N hy hl;have hA:=X7 N.toa5 hx (FL hn hl).2 (Nat.le_refl _) (Nat.le_refl _);rw[KB,<-Rat.sub_eq_add_neg]at hA;have hA':Ev L 126 [.agg (eW x),.agg (eQ (-y))] (.agg (eQ (x.v-y))):=hA;refine Ev.x N.JL rfl rfl ?_;(repeat' ((first|apply AE|refine AD (hN) ?_|refine AD (hA') ?_)<;>conv=>whnf))
 exact AX rfl (DJ _)
theorem oC (N:a5 L) {d:Rat} {y:AM} {l:Nat} (hd:Bt l d) (hy:y.Sz 68719476736) (hl:l<2199023255552):Ev L 128 [.agg (eQ d),.agg (eW y)] (.agg (eQ (d*y.v))):=by
 have:=UW N (FL hd hl).2 hy (Nat.le_refl _) (Nat.le_refl _)
 rw[KB]at this;exact this
theorem oU (N:e7 L) {x:AM} (hx:x.Sz 68719476736) : ∃ s:Int,Ev L 155 [.agg (eW x)] (.int .i64 s)/\(s=0↔x.v=0) :=
 ⟨_,oX N hx (Nat.le_refl _),RS⟩
structure JW (T:List (List Rat)) (n w K:Nat) (P:List Nat) (c:Nat) (d:Rat) (t:List AM) (m:List (List AM)) (i:Nat):Prop where
 re:C7 T n w (vM m) P c d
 ht:m[P.length]? = some t
 one:(t.map AM.v).getD c 0=1
 dn : ∀ (q:Nat) (r:List AM),q<i->q≠P.length->m[q]? = some r->(r.map AM.v).getD c 0=0
 lo : ∀ (q:Nat) (r:List AM),q<i->m[q]? = some r -> ∀ x∈r,x.Fit (4*K+1)
 hi : ∀ (q:Nat) (r:List AM),i<=q->q≠P.length->m[q]? = some r -> ∀ x∈r,x.Fit K
 bt : ∀ x∈t,x.Fit (2*K)
section
variable {T:List (List Rat)} {n w K:Nat} {P:List Nat} {c:Nat} {d:Rat} {m:List (List AM)} {t:List AM}
theorem JW.start {pw:AM} (h:C7 T n w (vM m) P c d) (hk:m[P.length]? = some t) (zt:t[c]? = some pw) (hp:pw.v≠0) (hM:DZ K m) (hK:K<=10000000000):JW T n w K P c (d*pw.v) (KQ pw.v t) (m.set P.length (KQ pw.v t)) 0:=by
 have od:=(zS hk).1;have tk:=hM.at hk;have Qe:=h.scale (IA hk) hp;rw[<-wX,<-Z3]at Qe;refine ⟨Qe,by rw[List.getElem?_set,if_pos rfl,if_pos od],?_,λ q r h1=>absurd h1 (by omega),λ q r h1=>absurd h1 (by omega),λ q r _ h2 hq => ?_,λ y hy => ?_⟩
 ·rw[wX,mD,YF zt,Rat.div_def,Rat.mul_inv_cancel _ hp]
 ·rw[List.getElem?_set,if_neg (Ne.symm h2)]at hq
  exact hM.at hq
 ·obtain ⟨z,hz,rfl⟩:=List.mem_map.1 hy
  exact FL (((tk z hz).1.ik (tk pw (zM zt)).1).le (by omega)) (by omega)
theorem JW.same {i:Nat} (h:JW T n w K P c d t m i) (hz:i≠P.length -> ∀ r,m[i]? = some r->(r.map AM.v).getD c 0=0):JW T n w K P c d t m (i+1):=by
 refine ⟨h.re,h.ht,h.one,λ q r h1 h2 hq => ?_,λ q r h1 hq => ?_,λ q r h1=>h.hi q r (by omega),h.bt⟩
 ·by_cases e:q=i
  ·subst e;exact hz h2 r hq
  ·exact h.dn q r (by omega) h2 hq
 ·by_cases e:q=i
  ·by_cases e2:q=P.length
   ·subst e2
    cases h.ht.symm.trans hq;exact λ y hy=>(h.bt y hy).le (by omega)
   ·exact λ y hy=>(h.hi q r (by omega) e2 hq y hy).le (by omega)
  ·exact h.lo q r (by omega) hq
theorem JW.step {i:Nat} {r:List AM} {fw:AM} (h:JW T n w K P c d t m i) (hi:m[i]? = some r) (hf:r[c]? = some fw) (ka:i≠P.length) (hK:K<=10000000000):JW T n w K P c d t (m.set i (FZ fw.v r t)) (i+1):=by
 have w5:=(zS hi).1;have jn:=h.re.o6.lr _ (zM (IA hi));have de:=h.re.o6.lr _ (zM (IA h.ht));have hrt:(r.map AM.v).length=(t.map AM.v).length:=by omega
 have x8 : ∀ (q:Nat) (x:List AM),(m.set i (FZ fw.v r t))[q]? = some x->(q=i/\x=FZ fw.v r t)\/(q≠i/\m[q]? = some x):=λ q x hx=>by
  rw[List.getElem?_set]at hx;by_cases e:i=q
  ·rw[if_pos e,if_pos (by omega)]at hx
   exact Or.inl ⟨e.symm,(Option.some.inj hx).symm⟩
  ·rw[if_neg e]at hx
   exact Or.inr ⟨Ne.symm e,hx⟩
 have Qd:=h.re.qh fw.v (IA h.ht) (IA hi) ka;rw[<-iQ,<-Z3]at Qd;refine ⟨Qd,by rw[List.getElem?_set,if_neg ka];exact h.ht,h.one,?_,?_,?_,h.bt⟩
 ·intro q x h1 h2 hx
  rcases x8 q x hx with ⟨e1,rfl⟩|⟨e1,h3⟩
  ·rw[iQ,lJ hrt,h.one,YF hf];grind
  ·exact h.dn q x (by omega) h2 h3
 ·intro q x h1 hx
  rcases x8 q x hx with ⟨e1,rfl⟩|⟨e1,h3⟩
  ·intro y hy
   obtain ⟨a,ha,b,uf,rfl⟩:=lH hy;have Fi:=h.hi i r (Nat.le_refl _) ka hi;exact FL (((Fi a ha).1.aj ((Fi fw (zM hf)).1.mul (h.bt b uf).1)).le (by omega)) (by omega)
  ·exact h.lo q x (by omega) h3
 ·intro q x h1 h2 hx
  rcases x8 q x hx with ⟨e1,rfl⟩|⟨e1,h3⟩
  ·omega
  ·exact h.hi q x (by omega) h2 h3
theorem JW.fin (h:JW T n w K P c d t m n):C7 T n w (vM m) (P++[c]) (c+1) d/\DZ (4*K+1) m:=by
 have bm:m.length=n:=by have:=h.re.len;rwa [vM,List.length_map]at this
 have g9 : ∀ (q:Nat) (r:List AM),m[q]? = some r->q<n:=λ q r hq=>by
  have:=(zS hq).1
  omega
 refine ⟨h.re.qy (IA h.ht) h.one λ q r h1 hq => ?_,λ r hr => ?_⟩
 ·obtain ⟨s,hs,rfl⟩:=wW hq
  exact h.dn q s (g9 q s hs) h1 hs
 ·obtain ⟨q,hq⟩:=List.getElem?_of_mem hr
  exact h.lo q r (g9 q r hq) hq
end
def bM:Bool->Mem
 | false=>[]
 | true=>[(2,2,.bx [.bool false,.nil,.nil])]
def bK:Bool->List Nat
 | false=>[]
 | true=>[2]
def bT:Bool->Tm
 | false=>[]
 | true=>[(1000+(0+1),.ptr 2 0 0 0)]
theorem Agv (xb:Bool) (N:w7 L) (T:List (List Rat)) (n w k9 K:Nat) (hn:1<=n/\n<=10) (hw:1<=w/\w<=20) (hK:K<=10000000000) {m:List (List AM)} {P:List Nat} {k c:Nat} {d d0:Rat} {t:List AM} {pw:AM} (Ju:P.length=k) (hR:C7 T n w (vM m) P c d0) (hM:DZ K m) (Ic:k<n) (qo:c<w) (ht:m[k]? = some t) (zt:t[c]? = some pw) (hp:pw.v≠0) {kk:List It} {Q:Tm->Mem->Prop}
  (fc : ∀ m2:List (List AM),C7 T n w (vM m2) (P++[c]) (c+1) (d0*pw.v)->DZ (4*K+1) m2->AA L (.lp GJ.l1 :: .c7 0::kk) ([(8,.int .i64 ((c+1:Nat):Int)),(6,.int .i64 ((k+1:Nat):Int)),(7,.ptr 901007 0 0 0),(5,.ptr 901005 0 0 0),(0,.row 277003 0 1 0 n),(0+1,.int .i64 k9)]++((1000+0,.ptr 277003 0 0 0)::bT xb)) ([(277003,277003,.mx (BK 3 eW m2)),(901007,901007,.bx (eQ d)),(901005,901005,.bx [.bool false,.nil,.nil])]++bM xb) Q) :
  AA L (.lp GJ.l3 :: .c7 4 :: .code ((((BH.ops GJ.dj false).dr [10,82,83,84,102] []).seq (BH.block 6 GJ.l4.loop)).seq ((BH.ops GJ.vz false).dr [103,104,105,155,156] [])) :: .c7 1 :: .code ((BH.ops GJ.r4 false).dr [9,25,26,48] []) :: .lp GJ.l1 :: .c7 0::kk)
   ([(83,.int .i64 ((0:Nat):Int)),(82,.int .i64 (w:Nat)),(10,.ptr 901010 0 0 0),(8,.int .i64 c),(6,.int .i64 k),(7,.ptr 901007 0 0 0),(5,.ptr 901005 0 0 0),(0,.row 277003 0 1 0 n),(0+1,.int .i64 k9)]++((1000+0,.ptr 277003 0 0 0)::bT xb))
   ([(277003,277003,.mx (BK 3 eW m)),(901007,901007,.bx (eQ d)),(901010,901010,.bx (eW pw)),(901005,901005,.bx [.bool false,.nil,.nil])]++bM xb) Q:=by
 cases xb;all_goals
  subst Ju;have bm:m.length=n:=by have:=hR.len;rwa [vM,List.length_map]at this
  have de:t.length=w:=by have:=hR.o6.lr _ (zM (IA ht));rwa [List.length_map]at this
  have tk:=hM.at ht;have xv:=tk pw (zM zt);have Az:=JW.start hR ht zt hp hM hK;have Ay:=VF (z:=3) ht;have Jx:(BK 3 eW m).length=n:=by simp only[BK,List.length_map];omega
  have Db:(BK 3 eW m).set P.length (some (3,(KQ pw.v t).map eW))=BK 3 eW (m.set P.length (KQ pw.v t)):=by simp only[BK,List.map_set]
  have Fl:(KQ pw.v t).length=w:=by rw[KQ,List.length_map];exact de
  have oc : ∀ (j:Nat) (x:AM),t[j]? = some x->(KQ pw.v t)[j]? = some (GU (x.v/pw.v)):=λ j x hx=>by rw[KQ,List.getElem?_map,hx];rfl
  have yx:=λ(x:AM) (hx:x∈t)=>Zs N (tk x hx).2 xv.2 hp
  generalize KQ pw.v t=u at *;generalize kg:pw.v=pv at *;refine SA (l:=[_,_]) rfl ?_;generalize BK 3 eW m=R0 at *;have xe:R0.set P.length (some (3,t.map eW))=R0:=VV Ay;refine EI (λ j=>w-j) (λ(j:Nat)=>j<=w) (λ j=>[(83,.int .i64 j)]) (λ j=>[(277003,277003,.mx (R0.set P.length (some (3,(u.take j++t.drop j).map eW))))]) [] [] 0 (by first|exact (by (conv=>whnf);exact ⟨rfl,rfl,rfl⟩)|(rw[List.take_zero,List.drop_zero,List.nil_append,xe];exact (by (conv=>whnf);exact ⟨rfl,rfl,rfl⟩))) (by omega) ?_;intro j j1 jh;have m5:(u.take j++t.drop j).length=w:=by rw[List.length_append,List.length_take,List.length_drop];omega
  by_cases hj:j<w
  ·obtain ⟨x,hx⟩ : ∃ x,t[j]? = some x:=⟨_,zE (by omega)⟩
   have Fz:=eL (a:=u) (by omega) hx;have kb:=eN (a:=u) (b:=t) (by omega) (oc j x hx);have hO:=yx x (zM hx);generalize u.take j++t.drop j=cm at *;(repeat' ((first|(apply AG<;>intro hc<;>try omega)|(apply AY;omega)|apply AE)<;>conv=>whnf))
   refine SF (by omega) (by omega) ?_;(conv=>whnf)
   (repeat' ((first|(apply AY;omega)|fail)<;>conv=>whnf))
   refine SF (by omega) (by omega) ?_;(conv=>whnf)
   skip
   refine AY (by rw[List.length_map];omega) ?_;(conv=>whnf)
   skip
   refine PN (by omega) (by omega) ?_;(conv=>whnf)
   (repeat' ((first|(refine E9 ?_ (λ_=>rfl) (λ v hv => ?_);omega)|fail)<;>conv=>whnf))
   cases Fz.symm.trans hv;(repeat' (refine AD (hO) ?_<;>conv=>whnf))
   refine AY (by rw[List.length_map];omega) ?_;(conv=>whnf)
   skip
   refine PN (by omega) (by omega) ?_;(conv=>whnf)
   refine ET (enc:=eW) (GU (x.v/pv)) rfl (λ_=>rfl) (by omega) ?_;rw[kb];(conv=>whnf)
   refine WY (by omega) (by rw[List.length_map,List.length_map,<-kb,List.length_set]) ?_;(conv=>whnf)
   (repeat' ((first|(apply AZ;omega)|fail)<;>conv=>whnf))
   exact BM [] (jh (j+1) (by omega) (by omega))
  ·have ej:j=w:=by omega
   clear jh;rw[ej,zT (by omega),List.drop_of_length_le (by omega),List.append_nil,Db];clear m5 hj j1 ej j Db Ay Jx xe oc Fl;have dv:(m.set P.length u).length=n:=by rw[List.length_set];exact bm
   generalize m.set P.length u=m2 at *;(repeat' ((first|(apply AG<;>intro hc<;>try omega)|apply AE)<;>conv=>whnf))
   refine SA (l:=[_,_]) rfl ?_;clear ht hM tk hR bm xv de yx zt hp kg;have np:u.length=w:=by have:=Az.re.o6.lr _ (zM (IA Az.ht));rwa [List.length_map]at this
   have oo:=Az.bt;refine JS (λ_ i=>n-i) (λ(m:List (List AM)) (i:Nat)=>JW T n w K P c (d0*pv) u m i/\i<=n) (λ_ i=>[(104,.int .i64 i)]) (λ m _=>[(277003,277003,.mx (BK 3 eW m))]) m2 0 ⟨Az,by omega⟩ ?_;clear Az dv;intro m i ⟨hS,i1⟩ ih;have bm:m.length=n:=by have:=hS.re.len;rwa [vM,List.length_map]at this
   by_cases hi:i<n
   ·obtain ⟨rq,jl⟩ : ∃ r,m[i]? = some r:=⟨_,zE (by omega)⟩
    have Dp:rq.length=w:=by have:=hS.re.o6.lr _ (zM (IA jl));rwa [List.length_map]at this
    have vb : ∀ x∈rq,x.Fit (2*K):=by
     by_cases e:i=P.length
     ·have h1:=hS.ht
      rw[<-e]at h1;cases h1.symm.trans jl;exact oo
     ·exact λ y hy=>(hS.hi i rq (Nat.le_refl _) e jl y hy).le (by omega)
    obtain ⟨fw,nm⟩ : ∃ x,rq[c]? = some x:=⟨_,zE (by omega)⟩;have Dg:=vb fw (zM nm);obtain ⟨sg,xf,hz⟩:=oU N.toe7 Dg.2;by_cases ka:i=P.length
    ·have g8:=hS.same (λ h=>absurd ka h)
     (repeat' ((first|(apply AG<;>intro hc<;>try omega)|(apply AY;omega)|(refine FY ?_ (λ r hr => ?_);omega)|apply AE)<;>conv=>whnf))
     cases jl.symm.trans hr;refine AY (by rw[List.length_map];omega) ?_;(conv=>whnf)
     (repeat' ((first|(apply AG<;>intro hc<;>try omega)|(apply AZ;omega)|(refine E9 ?_ (λ_=>rfl) (λ v hv => ?_);omega)|refine GP (by assumption) ?_)<;>conv=>whnf))
     exact BM [] (ih m (i+1) (by omega) ⟨g8,by omega⟩)
    ·by_cases sj:sg=0
     ·have Fp:=hz.1 sj
      have g8:=hS.same (λ_ r h=>by cases jl.symm.trans h;rw[YF nm];exact Fp);(repeat' ((first|(apply AG<;>intro hc<;>try omega)|(apply AY;omega)|(refine FY ?_ (λ r hr => ?_);omega)|apply AE)<;>conv=>whnf))
      cases jl.symm.trans hr;refine AY (by rw[List.length_map];omega) ?_;(conv=>whnf)
      (repeat' ((first|(apply AG<;>intro hc<;>try omega)|(refine E9 ?_ (λ_=>rfl) (λ v hv => ?_);omega)|refine GP (by assumption) ?_)<;>conv=>whnf))
      cases nm.symm.trans hv;(repeat' ((first|(apply AG<;>intro hc<;>try omega)|(apply AZ;omega)|refine AD (xf) ?_)<;>conv=>whnf))
      exact BM [] (ih m (i+1) (by omega) ⟨g8,by omega⟩)
     ·have g8:=hS.step jl nm ka hK
      have Ay:=VF (z:=3) jl;have hRk:=VF (z:=3) hS.ht;have Jx:(BK 3 eW m).length=n:=by simp only[BK,List.length_map];omega
      have Db:(BK 3 eW m).set i (some (3,(FZ fw.v rq u).map eW))=BK 3 eW (m.set i (FZ fw.v rq u)):=by simp only[BK,List.map_set]
      have m5:(FZ fw.v rq u).length=w:=by rw[Wa (by omega)];exact Dp
      have lu : ∀ (j:Nat) (x y:AM),rq[j]? = some x->u[j]? = some y->(FZ fw.v rq u)[j]? = some (GU (x.v-fw.v*y.v)):=λ j x y h1 h2=>Vz h1 h2
      generalize FZ fw.v rq u=cb at *;(repeat' ((first|(apply AG<;>intro hc<;>try omega)|(apply AY;omega)|(refine FY ?_ (λ r hr => ?_);omega)|apply AE)<;>conv=>whnf))
      cases jl.symm.trans hr;refine AY (by rw[List.length_map];omega) ?_;(conv=>whnf)
      (repeat' ((first|(apply AG<;>intro hc<;>try omega)|(refine E9 ?_ (λ_=>rfl) (λ v hv => ?_);omega)|refine GP (by assumption) ?_)<;>conv=>whnf))
      cases nm.symm.trans hv;(repeat' ((first|(apply AG<;>intro hc<;>try omega)|(apply AY;omega)|(refine FY ?_ (λ r hr => ?_);omega)|refine AD (xf) ?_)<;>conv=>whnf))
      cases jl.symm.trans hr;rw[show (rq.map eW).length=w by rw[List.length_map];exact Dp];generalize BK 3 eW m=R1 at *;have xe:R1.set i (some (3,rq.map eW))=R1:=VV Ay;refine EI (λ j=>w-j) (λ(j:Nat)=>j<=w) (λ j=>[(127,.int .i64 j)]) (λ j=>[(277003,277003,.mx (R1.set i (some (3,(cb.take j++rq.drop j).map eW))))]) [] [] 0 (by first|exact (by (conv=>whnf);exact ⟨rfl,rfl,rfl⟩)|(rw[List.take_zero,List.drop_zero,List.nil_append,xe];exact (by (conv=>whnf);exact ⟨rfl,rfl,rfl⟩))) (by omega) ?_;intro j j1 jh;have AmT:(cb.take j++rq.drop j).length=w:=by rw[List.length_append,List.length_take,List.length_drop];omega
      by_cases hj:j<w
      ·obtain ⟨x,hx⟩ : ∃ x,rq[j]? = some x:=⟨_,zE (by omega)⟩
       obtain ⟨y,hy⟩ : ∃ y,u[j]? = some y:=⟨_,zE (by omega)⟩;have Fz:=eL (a:=cb) (by omega) hx;have kb:=eN (a:=cb) (b:=rq) (by omega) (lu j x y hx hy);have nr:=oo y (zM hy);have Es:=UW N.toa5 Dg.2 nr.2 (Nat.le_refl _) (Nat.le_refl _);have zh:=Zi N.toe7 (vb x (zM hx)).2 (Dg.1.mul nr.1) (by omega);generalize cb.take j++rq.drop j=cm at *;have Ex:(R1.set i (some (3,cm.map eW)))[P.length]? = some (some (3,u.map eW)):=by rw[List.getElem?_set,if_neg ka];exact hRk
       (repeat' ((first|(apply AG<;>intro hc<;>try omega)|(apply AY;omega)|apply AE)<;>conv=>whnf))
       refine SF (by omega) (by omega) ?_;(conv=>whnf)
       (repeat' ((first|(apply AY;omega)|fail)<;>conv=>whnf))
       refine SF (by omega) (by omega) ?_;(conv=>whnf)
       skip
       refine AY (by rw[List.length_map];omega) ?_;(conv=>whnf)
       skip
       refine PN (by omega) (by omega) ?_;(conv=>whnf)
       (repeat' ((first|(apply AY;omega)|(refine E9 ?_ (λ_=>rfl) (λ v hv => ?_);omega))<;>conv=>whnf))
       cases Fz.symm.trans hv;skip
       refine zG (r:=some (3,u.map eW)) (by rw[show 0+((P.length:Nat):Int).toNat=P.length by omega];exact Ex) ?_;(conv=>whnf)
       skip
       refine AY (by rw[List.length_map];omega) ?_;(conv=>whnf)
       skip
       refine WO (by rw[show 0+((P.length:Nat):Int).toNat=P.length by omega];exact Ex) ?_;(conv=>whnf)
       (repeat' ((first|(refine E9 ?_ (λ_=>rfl) (λ v hv => ?_);omega)|fail)<;>conv=>whnf))
       cases hy.symm.trans hv;(repeat' ((first|refine AD (Es) ?_|refine AD (zh) ?_)<;>conv=>whnf))
       refine AY (by rw[List.length_map];omega) ?_;(conv=>whnf)
       skip
       refine PN (by omega) (by omega) ?_;(conv=>whnf)
       refine ET (enc:=eW) (GU (x.v-fw.v*y.v)) rfl (λ_=>rfl) (by omega) ?_;rw[kb];(conv=>whnf)
       refine WY (by omega) (by rw[List.length_map,List.length_map,<-kb,List.length_set]) ?_;(conv=>whnf)
       (repeat' ((first|(apply AZ;omega)|fail)<;>conv=>whnf))
       exact BM [] (jh (j+1) (by omega) (by omega))
      ·have ej:j=w:=by omega
       clear jh;rw[ej,zT (by omega),List.drop_of_length_le (by omega),List.append_nil,Db];(repeat' ((first|(apply AG<;>intro hc<;>try omega)|(apply AZ;omega)|apply AE)<;>conv=>whnf))
       exact BM [] (ih (m.set i cb) (i+1) (by omega) ⟨g8,by omega⟩)
   ·have ei:i=n:=by omega
    rw[ei]at hS;obtain ⟨g1,g2⟩:=hS.fin;clear ih;(repeat' ((first|(apply AG<;>intro hc<;>try omega)|(apply AZ;omega)|apply AE)<;>conv=>whnf))
    exact BS [] (by (conv=>whnf);exact ⟨rfl,rfl,rfl⟩) (fc m g1 g2)
theorem Agu (xb:Bool) (N:w7 L) (T:List (List Rat)) (n w k9 k0:Nat) (hn:1<=n/\n<=10) (hw:1<=w/\w<=20) (m5:k9<=w/\k9<=10) (hB:10*FH k0 k9<=100000000000) {m0:List (List AM)} (yz:C7 T n w (vM m0) [] 0 1) (yw:DZ k0 m0) {kk:List It} {Q:Tm->Mem->Prop}
  (fc : ∀ (m:List (List AM)) (P:List Nat) (c:Nat) (d:Rat),C7 T n w (vM m) P c d->c<=k9->(k9<=c\/n<=P.length)->DZ (FH k0 k9) m->Bt 100000000000 d->AA L kk ([(8,.int .i64 c),(6,.int .i64 (P.length:Nat)),(7,.ptr 901007 0 0 0),(5,.ptr 901005 0 0 0),(0,.row 277003 0 1 0 n),(0+1,.int .i64 k9)]++((1000+0,.ptr 277003 0 0 0)::bT xb)) ([(277003,277003,.mx (BK 3 eW m)),(901007,901007,.bx (eQ d)),(901005,901005,.bx [.bool false,.nil,.nil])]++bM xb) Q) :
  AA L (.lp GJ.l1 :: .c7 0::kk) ([(8,.int .i64 ((0:Nat):Int)),(6,.int .i64 ((0:Nat):Int)),(7,.ptr 901007 0 0 0),(5,.ptr 901005 0 0 0),(0,.row 277003 0 1 0 n),(0+1,.int .i64 k9)]++((1000+0,.ptr 277003 0 0 0)::bT xb)) ([(277003,277003,.mx (BK 3 eW m0)),(901007,901007,.bx (eQ ((1:Int):Rat))),(901005,901005,.bx [.bool false,.nil,.nil])]++bM xb) Q:=by
 have Oy := @Agv L xb N T n w k9;cases xb;all_goals
  refine SA (l:=[_,_]) rfl ?_;refine WF (λ_ c _ _=>k9-c) (λ(m:List (List AM)) (c:Nat) (P:List Nat) (d:Rat)=>C7 T n w (vM m) P c d/\c<=k9/\DZ (FH k0 c) m/\Bt (c*FH k0 k9) d) (λ_ c P _=>[(8,.int .i64 c),(6,.int .i64 (P.length:Nat))]) (λ m _ _ d=>[(277003,277003,.mx (BK 3 eW m)),(901007,901007,.bx (eQ d))]) [24] [] m0 0 [] ((1:Int):Rat) (by (conv=>whnf);exact ⟨rfl,rfl,rfl⟩) ⟨yz,by omega,yw,Bt.one _⟩ ?_;intro m c P d ⟨hR,Ks,hM,hd⟩ eh;have bm:m.length=n:=by have:=hR.len;rwa [vM,List.length_map]at this
  have Lj:=hR.o6.le;have Oh:=tY k0 (c:=c) (k9-c);rw[show c+(k9-c)=k9 by omega]at Oh;have hcX:c*FH k0 k9<=10*FH k0 k9:=zR _ (by omega);have js:(P++[c]).length=P.length+1:=by simp
  have yy:P.length<=n:=by have:=hR.o6.pl;have:=hR.len;omega
  by_cases qo:c<k9/\P.length<n
  ·(repeat' ((first|(apply AG<;>intro hc<;>try omega)|apply AE)<;>conv=>whnf))
   refine C5 (λ i=>n-i) (λ(i:Nat)=>P.length<=i/\i<=n /\ ∀ (q:Nat) (r:List AM),P.length<=q->q<i->m[q]? = some r->(r.map AM.v).getD c 0=0) (λ i=>[(9,.int .i64 i)]) (λ_=>[]) P.length ⟨Nat.le_refl _,by omega,λ q r h1 h2=>absurd h2 (by omega)⟩ ?_;intro i ⟨i1,i2,i3⟩ ih;by_cases hi:i<n
   ·obtain ⟨rp,u4⟩ : ∃ r,m[i]? = some r:=⟨_,zE (by omega)⟩
    have jn:rp.length=w:=by have:=hR.o6.lr _ (zM (IA u4));rwa [List.length_map]at this
    obtain ⟨rc,ga⟩ : ∃ x,rp[c]? = some x:=⟨_,zE (by omega)⟩;have uc:=hM.at u4 rc (zM ga);obtain ⟨sg,xf,hz⟩:=oU N.toe7 uc.2;by_cases sj:sg=0
    ·(repeat' ((first|(apply AG<;>intro hc<;>try omega)|(apply AY;omega)|(refine FY ?_ (λ r hr => ?_);omega)|apply AE)<;>conv=>whnf))
     cases u4.symm.trans hr;refine AY (by rw[List.length_map];omega) ?_;(conv=>whnf)
     (repeat' ((first|(refine E9 ?_ (λ_=>rfl) (λ v hv => ?_);omega)|refine GP (by assumption) ?_)<;>conv=>whnf))
     cases ga.symm.trans hv;(repeat' ((first|(apply AG<;>intro hc<;>try omega)|(apply AZ;omega)|refine AD (xf) ?_)<;>conv=>whnf))
     have i4 : ∀ (q:Nat) (r:List AM),P.length<=q->q<i+1->m[q]? = some r->(r.map AM.v).getD c 0=0:=λ q r h1 h2 h3=>by
      by_cases e:q=i
      ·subst e
       cases u4.symm.trans h3;rw[YF ga];exact hz.1 sj
      ·exact i3 q r h1 (by omega) h3
     exact BM [] (ih (i+1) (by omega) ⟨by omega,by omega,i4⟩)
    ·clear ih i3
     have Gg:rc.v≠0:=λ e=>sj (hz.2 e)
     obtain ⟨t,Aa⟩ : ∃ t,m[P.length]? = some t:=⟨_,zE (by omega)⟩;by_cases ka:i=P.length
     ·have Es:=oC N.toa5 hd uc.2 (by omega)
      have Kv:Bt ((c+1)*FH k0 k9) (d*rc.v):=(hd.mul uc.1).le (by rw[Nat.succ_mul];omega);subst ka;(repeat' ((first|(apply AG<;>intro hc<;>try omega)|(apply AY;omega)|(refine FY ?_ (λ r hr => ?_);omega)|apply AE)<;>conv=>whnf))
      cases u4.symm.trans hr;refine AY (by rw[List.length_map];omega) ?_;(conv=>whnf)
      (repeat' ((first|(refine E9 ?_ (λ_=>rfl) (λ v hv => ?_);omega)|refine GP (by assumption) ?_)<;>conv=>whnf))
      cases ga.symm.trans hv;(repeat' ((first|(apply AG<;>intro hc<;>try omega)|(apply AY;omega)|(refine FY ?_ (λ r hr => ?_);omega)|refine AD (xf) ?_)<;>conv=>whnf))
      cases u4.symm.trans hr;refine AY (by rw[List.length_map];omega) ?_;(conv=>whnf)
      (repeat' ((first|(refine E9 ?_ (λ_=>rfl) (λ v hv => ?_);omega)|refine GP (by assumption) ?_)<;>conv=>whnf))
      cases ga.symm.trans hv;(repeat' ((first|(apply AY;omega)|(refine FY ?_ (λ r hr => ?_);omega)|refine AD (Es) ?_)<;>conv=>whnf))
      cases u4.symm.trans hr;rw[show (rp.map eW).length=w by rw[List.length_map];exact jn];exact BS [] (by (conv=>whnf);exact ⟨rfl,rfl,rfl⟩) (Oy (FH k0 c) hn hw (by omega) rfl hR hM qo.2 (by omega) u4 ga Gg λ m2 g1 g2=>by rw[<-js];exact BS [] (by (conv=>whnf);exact ⟨rfl,rfl,rfl⟩) (eh m2 (c+1) (P++[c]) _ (by omega) ⟨g1,by omega,g2,Kv⟩))
     ·have hNg:=oH N.toe7 hd (by omega)
      have Es:=oC N.toa5 (Bt.yl hd) uc.2 (by omega);have Kv:Bt ((c+1)*FH k0 k9) (-d*rc.v):=((Bt.yl hd).mul uc.1).le (by rw[Nat.succ_mul];omega);refine xO 24 ?_;(conv=>whnf)
      (repeat' ((first|(apply AG<;>intro hc<;>try omega)|(apply AY;omega)|(refine FY ?_ (λ r hr => ?_);omega))<;>conv=>whnf))
      cases u4.symm.trans hr;refine AY (by rw[List.length_map];omega) ?_;(conv=>whnf)
      (repeat' ((first|(refine E9 ?_ (λ_=>rfl) (λ v hv => ?_);omega)|refine GP (by assumption) ?_)<;>conv=>whnf))
      cases ga.symm.trans hv;(repeat' ((first|(apply AG<;>intro hc<;>try omega)|(apply AY;omega)|(refine FY ?_ (λ r hr => ?_);omega)|refine GP (by assumption) ?_|refine AD (xf) ?_)<;>conv=>whnf))
      refine AY ⟨rfl,by simp only[BK,List.length_map];omega⟩ ?_;(conv=>whnf)
      (repeat' ((first|(apply AY;omega)|refine GP (by assumption) ?_)<;>conv=>whnf))
      rw[show 0+((i:Nat):Int).toNat=i by omega,show 0+((P.length:Nat):Int).toNat=P.length by omega];refine AY ⟨rfl,by simp only[BK,List.length_map,List.length_set,List.length_range];omega,xC (by simp only[BK,List.length_map];omega)⟩ ?_;(conv=>whnf)
      refine iV (k:=277003) (i:=i) (j:=P.length) rfl (VF u4) (VF Aa) rfl rfl ?_;rw[AfN];have Jw:=hR.swap (IA u4) (IA Aa) (by omega);rw[<-Z3,<-Z3]at Jw;have y8:DZ (FH k0 c) ((m.set i t).set P.length rp):=λ x hx=>by
       rcases List.mem_or_eq_of_mem_set hx with h|rfl
       ·rcases List.mem_or_eq_of_mem_set h with h|rfl
        ·exact hM x h
        ·exact hM.at Aa
       ·exact hM.at u4
      have ig:((m.set i t).set P.length rp)[P.length]? = some rp:=by rw[List.getElem?_set,if_pos rfl,if_pos (by rw[List.length_set];omega)]
      have xo:((m.set i t).set P.length rp).length=n:=by rw[List.length_set,List.length_set];exact bm
      generalize (m.set i t).set P.length rp=m1 at *;(repeat' ((first|(apply AY;omega)|(refine FY ?_ (λ r hr => ?_);omega)|apply AE|refine AD (hNg) ?_)<;>conv=>whnf))
      cases ig.symm.trans hr;refine AY (by rw[List.length_map];omega) ?_;(conv=>whnf)
      (repeat' ((first|(refine E9 ?_ (λ_=>rfl) (λ v hv => ?_);omega)|refine GP (by assumption) ?_)<;>conv=>whnf))
      cases ga.symm.trans hv;(repeat' ((first|(apply AY;omega)|(refine FY ?_ (λ r hr => ?_);omega)|refine AD (Es) ?_)<;>conv=>whnf))
      cases ig.symm.trans hr;rw[show (rp.map eW).length=w by rw[List.length_map];exact jn];exact BS [] (by (conv=>whnf);exact ⟨rfl,rfl,rfl⟩) (Oy (FH k0 c) hn hw (by omega) rfl Jw y8 qo.2 (by omega) ig ga Gg λ m2 g1 g2=>by rw[<-js];exact BS [] (by (conv=>whnf);exact ⟨rfl,rfl,rfl⟩) (eh m2 (c+1) (P++[c]) _ (by omega) ⟨g1,by omega,g2,Kv⟩))
   ·have ei:i=n:=by omega
    clear ih;have hR9:=hR.skip λ q r h1 h3=>by
     obtain ⟨s,hs,rfl⟩:=wW h3;exact i3 q s (by omega) (by have:=(zS hs).1;omega) hs
    clear i3;(repeat' ((first|(apply AG<;>intro hc<;>try omega)|(apply AZ;omega)|apply AE)<;>conv=>whnf))
    exact BS [] (by (conv=>whnf);exact ⟨rfl,rfl,rfl⟩) (eh m (c+1) P d (by omega) ⟨hR9,by omega,hM.le (show FH k0 c<=4*FH k0 c+1 by omega),hd.le (zR _ (by omega))⟩)
  ·clear eh
   have af:k9<=c\/n<=P.length:=by omega
   (repeat' ((first|(apply AG<;>intro hc<;>try omega)|apply AE)<;>conv=>whnf))
   all_goals exact BS [] (by (conv=>whnf);exact ⟨rfl,rfl,rfl⟩) (fc m P c d hR Ks af (hM.le Oh) (hd.le (by omega)))
theorem Rx (xb:Bool) (N:w7 L) (T:List (List Rat)) (n w k9 k0:Nat) (hn:1<=n/\n<=10) (hw:1<=w/\w<=20) (m5:k9<=w/\k9<=10) (hB:10*FH k0 k9<=100000000000) {m0:List (List AM)} (yz:C7 T n w (vM m0) [] 0 1) (yw:DZ k0 m0) {K:AV->Mem->Prop}
  (hK : ∀ (m:List (List AM)) (P:List Nat) (c:Nat) (d:Rat),C7 T n w (vM m) P c d->c<=k9->(k9<=c\/n<=P.length)->DZ (FH k0 k9) m->Bt 100000000000 d->K (.e6 [.int .i64 (P.length:Nat),.agg (eQ d)]) ((277003,277003,.mx (BK 3 eW m))::bM xb)) :
  A4 L 901 [.row 277003 0 1 0 n,.int .i64 (k9:Nat)] (Z0 (277003::bK xb)) ((277003,277003,.mx (BK 3 eW m0))::bM xb) K:=by
 have hMn := @Agu L xb N T n w k9 k0;cases xb;all_goals
  have hI:=UX N.toa5 1 (by omega);have bm:m0.length=n:=by have:=yz.len;rwa [vM,List.length_map]at this
  refine jA ?_;refine FC 1000 N.GJ rfl rfl ?_;(repeat' ((first|apply AE|refine AD (hI) ?_)<;>conv=>whnf))
  refine BS [] (by (conv=>whnf);exact ⟨rfl,rfl,rfl⟩) (hMn hn hw m5 hB yz yw (λ m P c d h1 h2 h3 h4 h5 => ?_));have hk:=hK m P c d h1 h2 h3 h4 h5;(repeat' (apply AE<;>conv=>whnf))
  refine ⟨rfl,?_⟩;(conv=>whnf)
  refine ⟨_,?_,hk⟩;first|exact ⟨rfl,trivial⟩|exact ⟨rfl,rfl,trivial⟩
end Go.b8

namespace Go.b8
open F
attribute [local irreducible] AA AF AQ AC CI AW A5 A9 B4 B3 CE DE BX A3 BW CD AB A4 AJ pw BV BN CS CR C1 CY CT BL DD
variable {L:Lib}
set_option maxHeartbeats 16000000
theorem AfO (z:Nat) (m:List (List Rat)):BK z eW (wM m)=BK z eQ m:=by
 simp only[BK,wM,List.map_map,Function.comp_def,ST]
theorem Rw (xb:Bool) (N:w7 L) (q1 q2:Bool) (aw:List (List AM)) (n w k:Nat) (da:aw.length=n) (cf : ∀ r∈aw,r.length=w) (hn:n<=52) (hw:w<=52) (uk:DZ k aw) {K:AV->Mem->Prop} (hK:K (.row 277003 0 1 0 n) ((277003,277003,.mx (BK 3 eQ (vM aw)))::bM xb)) :
  A4 L 277 [.sl q1 (FE q2 aw)] (Z0 (bK xb)) (bM xb) K:=by
 obtain ⟨a,jo⟩ : ∃ a,vM aw=a:=⟨_,rfl⟩;rw[jo]at hK;have lq:a.length=n:=jo ▸ TT da;have Km : ∀ (i:Nat) (r:List AM),aw[i]? = some r->a[i]? = some (r.map AM.v):=λ i r h=>jo ▸ IA h
 cases xb;all_goals
  refine jA ?_;refine FW 1000 N.NI rfl rfl ?_;(repeat' ((first|apply AU|apply AE)<;>conv=>whnf))
  refine WG 277003 277003 rfl ?_;refine C5 (λ i=>n-i) (λ(i:Nat)=>i<=n) (λ i=>[(11,.int .i64 i),(3,.row 277003 0 1 0 i)]) (λ i=>[(277003,277003,.mx (BK 3 eQ (a.take i)))]) 0 (by omega) ?_;intro i p1 ih;have Du:(a.take i).length=i:=by rw[List.length_take];omega
  by_cases hi:i<n
  ·obtain ⟨ra,yb⟩ : ∃ r,aw[i]? = some r:=⟨_,zE (by omega)⟩
   have sf:aw[(i:Int).toNat]? = some ra:=yb;have jn:=cf ra (zM yb);have si:=uk.at yb;have Dv:=FU (Km i ra yb);have Mx : ∀ (j:Nat) (x:AM),ra[j]? = some x->(ra.map AM.v)[j]? = some x.v:=λ j x h=>iP h
   have mh:(ra.map AM.v).length=w:=by rw[List.length_map];exact jn
   generalize a.take i=R0 at *;generalize ra.map AM.v=r at *;(repeat' ((first|(apply AG<;>intro hc<;>try omega)|apply AU|(refine BA (by assumption) ?_ rfl ?_;omega)|apply AE)<;>conv=>whnf))
   refine C5 (λ j=>w-j) (λ(j:Nat)=>j<=w) (λ j=>[(17,.int .i64 j),(6,.row 277006 0 3 0 j)]) (λ j=>[(277006,277006,.rw 3 ((r.take j).map eQ))]) 0 (by omega) ?_;intro j p2 jh;have Gz:(r.take j).length=j:=by rw[List.length_take];omega
   by_cases hj:j<w
   ·obtain ⟨x,hx⟩ : ∃ x,ra[j]? = some x:=⟨_,zE (by omega)⟩
    have mi:ra[(j:Int).toNat]? = some x:=hx;have kb:=FU (Mx j x hx);have hT:=cZ N.toa5 (si x (zM hx)).2 (Nat.le_refl _);generalize r.take j=M0 at *;(repeat' ((first|(apply AG<;>intro hc<;>try omega)|(refine BA (by assumption) ?_ rfl ?_;omega)|apply E5|apply AE|refine AD (hT) ?_)<;>conv=>whnf))
    refine FP (enc:=eQ) x.v rfl Gz.symm rfl (by omega) (by omega) ?_;(conv=>whnf)
    (repeat' ((first|(apply AZ;omega)|fail)<;>conv=>whnf))
    rw[<-kb,show (r.take (j+1)).length=j+1 by rw[List.length_take];omega];exact BM [(277006,277025)] (jh (j+1) (by omega) (by omega))
   ·obtain rfl:j=w:=by omega
    clear jh;rw[zT (by omega)];(repeat' ((first|(apply AG<;>intro hc<;>try omega)|apply AE)<;>conv=>whnf))
    refine AY (by rw[List.length_map,mh]) ?_;refine WH (r:=r) (en:=eQ) Du.symm (by omega) (by omega) ?_;rw[<-Dv,show (a.take (i+1)).length=i+1 by rw[List.length_take];omega];(conv=>whnf)
    (repeat' ((first|(apply AZ;omega)|fail)<;>conv=>whnf))
    exact BM [(277003,277030)] (ih (i+1) (by omega) (by omega))
  ·obtain rfl:i=n:=by omega
   clear ih;rw[zT (by omega)];(repeat' ((first|(apply AG<;>intro hc<;>try omega)|apply AE)<;>conv=>whnf))
   refine ⟨rfl,_,rfl,?_⟩;(conv=>whnf)
   refine ⟨_,?_,hK⟩;first|exact ⟨rfl,trivial⟩|exact ⟨rfl,rfl,trivial⟩
theorem Aha (m:List (List Rat)) (n k:Nat):HJ (m.map (·.drop n)) k=HJ m (n+k):=by
 simp only[HJ,List.map_map,Function.comp_def];exact List.map_congr_left λ r _=>by rw[List.getD_eq_getElem?_getD,List.getElem?_drop,<-List.getD_eq_getElem?_getD]
def jX (a b:List (List Rat)) (n W:Nat) (v:AV):Prop :=
 (¬ NS n a/\v = .e6 [.sl false [],.int .i64 11])\/(NS n a /\ ∃ U:List (List Rat),v = .e6 [.sl false (eM U),.int .i64 0]/\U.length=n/\(∀ r∈U,r.length=W)/\Ms 100000000000 U /\ ∀ k,k<W -> ∀ (i:Nat) (r s:List Rat),a[i]? = some r->b[i]? = some s->A6 r (HJ U k)=s.getD k 0)
theorem Ada (N:w7 L) (q1 q2 q3 q4:Bool) (aw bw:List (List AM)) (n W k:Nat) (da:aw.length=n) (cf : ∀ r∈aw,r.length=n) (fo:bw.length=n) (ku : ∀ r∈bw,r.length=W) (ma:DZ k bw) (hn:1<=n/\n<=10) (hW:1<=W/\W<=10) (uk:DZ k aw) (hk:k<=1000000000) (hB:10*FH k n<=100000000000) :
  ∃ v,Ev L 278 [.sl q1 (FE q2 aw),.sl q3 (FE q4 bw)] v/\jX (vM aw) (vM bw) n W v:=by
 obtain ⟨a,jo⟩ : ∃ a,vM aw=a:=⟨_,rfl⟩;obtain ⟨b,ou⟩ : ∃ b,vM bw=b:=⟨_,rfl⟩;rw[jo,ou];have lq:a.length=n:=jo ▸ TT da;have im : ∀ r∈a,r.length=n:=jo ▸ WD cf;have nb:Ms k a:=jo ▸ uk.ms;have jg:b.length=n:=ou ▸ TT fo;have zj : ∀ r∈b,r.length=W:=ou ▸ WD ku;have Ip:vM (DY (wM a) bw)=DW a b:=by rw[iO,TU,ou]
 have xn:(DY (wM a) bw).length=n:=qM (Z9 lq) fo;obtain ⟨Bw,Bv⟩:=qL (aA im) ku (DZ.of nb (by omega)) ma;have yz:C7 (DW a b) n (n+W) (vM (DY (wM a) bw)) [] 0 1:=by
  have h1:=TT xn;have h2:=WD Bw;rw[Ip]at h1 h2 ⊢;exact C7.start h1 h2
 have Ae:(wM a).length=n:=Z9 lq;have hww:=aA im;refine Ev.xE N.NH rfl rfl ?_;(repeat' (apply AE<;>conv=>whnf))
 refine jB [] [] trivial rfl (Rw false N q1 q2 aw n n k da cf (by omega) (by omega) uk ?_);rw[jo,<-AfO];(conv=>whnf)
 skip
 rw[show (BK 3 eW (wM a))=BK 3 eW ((DY (wM a) bw).take 0++(wM a).drop 0) by rw[List.take_zero,List.drop_zero,List.nil_append]];refine C5 (λ j=>n-j) (λ(j:Nat)=>j<=n) (λ j=>[(19,.int .i64 j)]) (λ j=>[(277003,277003,.mx (BK 3 eW ((DY (wM a) bw).take j++(wM a).drop j)))]) 0 (by omega) ?_;intro j p2 jh;have bm:((DY (wM a) bw).take j++(wM a).drop j).length=n:=by rw[List.length_append,List.length_take,List.length_drop];omega
 by_cases hj:j<n
 ·obtain ⟨r,u4⟩ : ∃ r,(wM a)[j]? = some r:=⟨_,zE (by omega)⟩
  obtain ⟨s,bp⟩ : ∃ s,bw[j]? = some s:=⟨_,zE (by omega)⟩;have Mh:bw[(j:Int).toNat]? = some s:=bp;have jn:=hww r (zM u4);have Ik:=ku s (zM bp);have hRj:=eL (a:=DY (wM a) bw) (by omega) u4;have hRs:=eN (a:=DY (wM a) bw) (b:=wM a) (by omega) (dW u4 bp);generalize (DY (wM a) bw).take j++(wM a).drop j=R0 at *;(repeat' ((first|(apply AG<;>intro hc<;>try omega)|(apply AY;omega)|(refine BA (by assumption) ?_ rfl ?_;omega)|(refine FY ?_ (λ r hr => ?_);omega)|refine GP (by assumption) ?_|apply AE)<;>conv=>whnf))
  cases hRj.symm.trans hr;refine WJ (enc:=eW) (by rw[List.length_map]) (λ_=>rfl) (by omega) (by omega) ?_;intro s' v;(conv=>whnf)
  (repeat' ((first|(apply AY;omega)|fail)<;>conv=>whnf))
  refine AY ⟨rfl,by rw[List.length_map]⟩ ?_;refine W2 (i:=j) (by omega) (by rw[List.length_set];simp only[BK,List.length_map];omega) ?_;rw[show 0+((j:Int)).toNat=j by omega,List.set_set,show (BK 3 eW R0).set j (some (3,(r++s).map eW))=BK 3 eW (R0.set j (r++s)) by simp only[BK,List.map_set],hRs];(conv=>whnf)
  (repeat' ((first|(apply AZ;omega)|fail)<;>conv=>whnf))
  exact BM [] (jh (j+1) (by omega) (by omega))
 ·have ej:j=n:=by omega
  clear jh;rw[ej,zT (by omega),List.drop_of_length_le (by omega),List.append_nil];(repeat' ((first|(apply AG<;>intro hc<;>try omega)|apply AU|apply AE)<;>conv=>whnf))
  rw[da];refine jB [277003] [(277003,277003,.mx (BK 3 eW (DY (wM a) bw)))] ⟨rfl,trivial⟩ rfl (Rx false N (DW a b) n (n+W) n k hn (by omega) (by omega) hB yz Bv (λ m P c d h1 h2 h3 h4 h5 => ?_));have xo:m.length=n:=by have:=h1.len;rwa [vM,List.length_map]at this
  have cn:=h1.ns (by omega) im h2 h3;by_cases ig:P.length<n
  ·(repeat' ((first|(apply AG<;>intro hc<;>try omega)|apply AU)<;>conv=>whnf))
   refine ⟨_,AX rfl (by simp only[A2,B8,EZ,true_and,and_true]),Or.inl ⟨λ h => ?_,rfl⟩⟩;have:=cn.2 h
   omega
  ·have yy:P.length=n:=by have:=h1.o6.pl;rw[h1.len]at this;omega
   have fc : ∀ r:AV,r = .e6 [.sl false (eM ((vM m).map (·.drop n))),.int .i64 0]->jX a b n W r:=λ r hr=>Or.inr ⟨cn.1 yy,(vM m).map (·.drop n),hr,by rw[List.length_map];exact h1.len,λ x hx=>by
    obtain ⟨y,hy,rfl⟩:=List.mem_map.1 hx;rw[List.length_drop,h1.o6.lr y hy];omega,λ x hx z hz=>by
    obtain ⟨y,hy,rfl⟩:=List.mem_map.1 hx;exact (h4.ms y hy z (List.mem_of_mem_drop hz)).le (by omega),λ k2 ig i r s hr hs=>by
    rw[Aha];exact h1.Nq (by omega) im zj h2 yy ig hr hs⟩
   have qk:((vM m).map (·.drop n)).length=n:=by rw[List.length_map];exact h1.len
   have Kd : ∀ (q:Nat) (r:List AM),m[q]? = some r->((vM m).map (·.drop n))[q]? = some ((r.map AM.v).drop n):=λ q r hq=>by rw[List.getElem?_map,IA hq];rfl
   (repeat' ((first|(apply AG<;>intro hc<;>try omega)|apply AU)<;>conv=>whnf))
   refine WG 10 10 rfl ?_;generalize (vM m).map (·.drop n)=U at *;refine C5 (λ i=>n-i) (λ(i:Nat)=>i<=n) (λ i=>[(48,.int .i64 i),(10,.row 10 0 1 0 i)]) (λ i=>[(10,10,.mx (BK 3 eQ (U.take i)))]) 0 (by omega) ?_;intro i i1 ih;have Mt:(U.take i).length=i:=by rw[List.length_take];omega
   by_cases ru:i<n
   ·obtain ⟨rp,u4⟩ : ∃ r,m[i]? = some r:=⟨_,zE (by omega)⟩
    have jn:rp.length=n+W:=by have:=h1.o6.lr _ (zM (IA u4));rwa [List.length_map]at this
    have si:=h4.at u4;have hut:=FU (Kd i rp u4);have Fl:((rp.map AM.v).drop n).length=W:=by rw[List.length_drop,List.length_map];omega
    have oc : ∀ (j:Nat) (x:AM),rp[n+j]? = some x->((rp.map AM.v).drop n)[j]? = some x.v:=λ j x hx=>by rw[List.getElem?_drop,iP hx]
    generalize U.take i=R0 at *;generalize (rp.map AM.v).drop n=rd at *;(repeat' ((first|(apply AG<;>intro hc<;>try omega)|(apply AY;omega)|apply AU|(refine FY ?_ (λ r hr => ?_);omega)|apply AE)<;>conv=>whnf))
    cases u4.symm.trans hr;refine yT n (by omega) (by rw[List.length_map];omega) ?_;rw[List.length_map,jn];(conv=>whnf)
    skip
    refine C5 (λ j=>W-j) (λ(j:Nat)=>j<=W) (λ j=>[(59,.int .i64 j),(12,.row 12 0 3 0 j)]) (λ j=>[(12,12,.rw 3 ((rd.take j).map eQ))]) 0 (by omega) ?_;intro j j1 jh;have Gz:(rd.take j).length=j:=by rw[List.length_take];omega
    by_cases hj:j<W
    ·obtain ⟨x,hx⟩ : ∃ x,rp[n+j]? = some x:=⟨_,zE (by omega)⟩
     have kb:=FU (oc j x hx);have Hp:=cZ N.toa5 (si x (zM hx)).2 (Nat.le_refl _);generalize rd.take j=M0 at *;(repeat' ((first|(apply AG<;>intro hc<;>try omega)|(apply AY;omega)|refine GP (by assumption) ?_|apply AE)<;>conv=>whnf))
     refine JV (enc:=eW) (e:=x) (l:=rp) (by rw[show 0+n+((j:Nat):Int).toNat=n+j by omega];exact hx) rfl ?_;(conv=>whnf)
     (repeat' ((first|apply E5|refine AD (Hp) ?_)<;>conv=>whnf))
     refine FP (enc:=eQ) x.v rfl Gz.symm rfl (by omega) (by omega) ?_;(conv=>whnf)
     (repeat' ((first|(apply AZ;omega)|fail)<;>conv=>whnf))
     rw[<-kb,show (rd.take (j+1)).length=j+1 by rw[List.length_take];omega];exact BM [(12,67)] (jh (j+1) (by omega) (by omega))
    ·have ej:j=W:=by omega
     clear jh;rw[ej,zT (by omega)];(repeat' ((first|(apply AG<;>intro hc<;>try omega)|apply AE)<;>conv=>whnf))
     refine AY (by rw[List.length_map,Fl]) ?_;refine WH (r:=rd) (en:=eQ) Mt.symm (by omega) (by omega) ?_;rw[<-hut,show (U.take (i+1)).length=i+1 by rw[List.length_take];omega];(conv=>whnf)
     (repeat' ((first|(apply AZ;omega)|fail)<;>conv=>whnf))
     exact BM [(10,72)] (ih (i+1) (by omega) (by omega))
   ·have ei:i=n:=by omega
    clear ih;rw[ei,zT (by omega)];(repeat' ((first|(apply AG<;>intro hc<;>try omega)|apply AE)<;>conv=>whnf))
    refine ⟨.e6 [.sl false (eM U),.int .i64 0],?_,fc _ rfl⟩;(conv=>whnf)
    refine QS (λ_=>rfl) rfl qk.symm ?_;(conv=>whnf)
    exact AX rfl (UK U 0)
theorem wG {α:Type} {l:List α} {i:Nat} {x:α} (h:l[i]? = some x):l.take (i+1)=l.take i++[x]:=by rw[List.take_add_one,h];rfl
def jY (a:List (List Rat)) (b:List Rat) (n:Nat) (v:AV):Prop :=
 (¬ NS n a/\v = .e6 [.sl false [],.int .i64 11])\/(NS n a /\ ∃ y:List Rat,v = .e6 [.sl false (y.map eQ),.int .i64 0]/\y.length=n/\Bs 100000000000 y /\ ∀ (i:Nat) (r:List Rat) (s:Rat),a[i]? = some r->b[i]? = some s->A6 r y=s)
theorem Wi {U:List (List Rat)} (h : ∀ r∈U,r.length=1):U=(HJ U 0).map λ x=>[x]:=by
 induction U with
 | nil=>rfl
 | cons r U ih =>
  have h1:=h r List.mem_cons_self;have h2:=ih λ x hx=>h x (List.mem_cons_of_mem _ hx)
  match r,h1 with
  | [x],_=>simp only[HJ,List.map_cons]at h2 ⊢;rw[<-h2];rfl
theorem AdX (N:kp L) (q1 q2 q3:Bool) (aw:List (List AM)) (bw:List AM) (n k:Nat) (da:aw.length=n) (cf : ∀ r∈aw,r.length=n) (fo:bw.length=n) (ma : ∀ x∈bw,x.Fit k) (hn:1<=n/\n<=10) (uk:DZ k aw) (hk:k<=1000000000) (hB:10*FH k n<=100000000000) :
  ∃ v,Ev L 327 [.sl q1 (FE q2 aw),.sl q3 (bw.map eW)] v/\jY (vM aw) (bw.map AM.v) n v:=by
 have hV:=AdY N.toea q1 q2 aw n n da cf (by omega) (by omega);obtain ⟨r0,u4⟩ : ∃ r,aw[0]? = some r:=⟨_,zE (by omega)⟩;have Ck:aw[(0:Int).toNat]? = some r0:=u4;have gk:=cf r0 (zM u4);obtain ⟨v,Jj,bn⟩:=Ada N.tow7 q1 q2 true true aw (bw.map λ x=>[x]) n 1 k da cf (by rw[List.length_map];exact fo) (λ r hr=>by obtain ⟨x,_,rfl⟩:=List.mem_map.1 hr;rfl) (λ r hr=>by
  obtain ⟨x,hx,rfl⟩:=List.mem_map.1 hr;intro z hz;obtain rfl:=List.mem_singleton.1 hz;exact ma z hx) hn (by omega) uk hk hB
 refine Ev.xE N.NG rfl rfl ?_;(repeat' ((first|(apply AG<;>intro hc<;>try omega)|apply AU|(refine BA (by assumption) ?_ rfl ?_;omega)|apply AE|refine AD (hV) ?_)<;>conv=>whnf))
 refine WG 6 6 rfl ?_;refine C5 (λ i=>n-i) (λ(i:Nat)=>i<=n) (λ i=>[(35,.int .i64 i),(6,.row 6 0 1 0 i)]) (λ i=>[(6,6,.mx (BK 3 eW ((bw.take i).map λ x=>[x])))]) 0 (by omega) ?_;intro i p1 ih;have de:((bw.take i).map λ x=>[x]).length=i:=by rw[List.length_map,List.length_take];omega
 by_cases hi:i<n
 ·obtain ⟨x,hx⟩ : ∃ x,bw[i]? = some x:=⟨_,zE (by omega)⟩
  have mi:bw[(i:Int).toNat]? = some x:=hx;have hs:(bw.take (i+1)).map (λ x=>[x])=(bw.take i).map (λ x=>[x])++[[x]]:=by rw[wG hx,List.map_append];rfl
  have vj:((bw.take (i+1)).map λ x=>[x]).length=i+1:=by rw[List.length_map,List.length_take];omega
  generalize (bw.take i).map (λ x=>[x])=R0 at *;(repeat' ((first|(apply AG<;>intro hc<;>try omega)|(refine BA (by assumption) ?_ rfl ?_;omega)|apply AE)<;>conv=>whnf))
  refine AY rfl ?_;refine WH (r:=[x]) (en:=eW) de.symm (by omega) (by omega) ?_;rw[<-hs,vj];(conv=>whnf)
  (repeat' ((first|(apply AZ;omega)|fail)<;>conv=>whnf))
  exact BM [(6,43)] (ih (i+1) (by omega) (by omega))
 have ei:i=n:=by omega
 clear ih;rw[ei,zT (by omega)];(repeat' ((first|(apply AG<;>intro hc<;>try omega)|(refine QS (λ_=>rfl) rfl ?_ ?_;(first|rfl|simp))|apply AE)<;>conv=>whnf))
 ·exact fo.symm
 (conv=>whnf)
 rcases bn with ⟨cn,rfl⟩|⟨cn,U,rfl,qk,Oz,hUb,Mm⟩
 ·(repeat' (refine AD (Jj) ?_<;>conv=>whnf))
  refine AU (l:=([]:List Rat)) (enc:=eQ) ?_;rw[show ([]:List Rat).length=0 from rfl];(conv=>whnf)
  refine aB ?_;(repeat' ((first|(apply AG<;>intro hc<;>try omega)|apply AE)<;>conv=>whnf))
  refine ⟨.e6 [.sl false [],.int .i64 11],?_,Or.inl ⟨cn,rfl⟩⟩;(conv=>whnf)
  refine Tk ?_;(conv=>whnf)
  exact AX rfl (UK [] 11)
 ·have hU1:=Wi Oz
  have bp:=Mm 0 (by omega);have c2:(HJ U 0).length=n:=by rw[HJ,List.length_map];exact qk
  have c3:Bs 100000000000 (HJ U 0):=λ z hz=>by
   obtain ⟨r,hr,rfl⟩:=List.mem_map.1 hz;have w6:=Oz r hr;exact hUb r hr _ (zM (RB (show 0<r.length by omega)))
  have fc : ∀ r:AV,r = .e6 [.sl false ((HJ U 0).map eQ),.int .i64 0]->jY (vM aw) (bw.map AM.v) n r:=λ r hr=>Or.inr ⟨cn,HJ U 0,hr,c2,c3,λ i r s h1 h2=>by
   have o3:(vM (bw.map λ x=>[x]))[i]? = some [s]:=by rw[WC,List.getElem?_map,h2];rfl
   exact bp i r [s] h1 o3⟩
  rw[hU1]at Jj;generalize HJ U 0=y at *;have hYl:(y.map λ x=>[x]).length=n:=by rw[List.length_map];exact c2
  have xi : ∀ (i:Nat) (x:Rat),y[i]? = some x->(y.map λ x=>[x])[((i:Nat):Int).toNat]? = some [x]:=λ i x hx=>by
   rw[Int.toNat_natCast,List.getElem?_map,hx];rfl
  have hY1 : ∀ x:Rat,([x]:List Rat)[(0:Int).toNat]? = some x:=λ x=>rfl
  generalize (y.map λ x=>[x])=Y at *;(repeat' ((first|apply AU|refine AD (Jj) ?_)<;>conv=>whnf))
  refine C5 (λ i=>n-i) (λ(i:Nat)=>i<=n) (λ i=>[(53,.int .i64 i),(11,.row 11 0 3 0 i)]) (λ i=>[(11,11,.rw 3 ((y.take i).map eQ))]) 0 (by omega) ?_;intro i p1 ih;have de:(y.take i).length=i:=by rw[List.length_take];omega
  by_cases hi:i<n
  ·obtain ⟨x,hx⟩ : ∃ x,y[i]? = some x:=⟨_,zE (by omega)⟩
   have mi:=xi i x hx;have Ir:=hY1 x;have hs:=wG hx;have vj:(y.take (i+1)).length=i+1:=by rw[List.length_take];omega
   generalize y.take i=R0 at *;(repeat' ((first|(apply AG<;>intro hc<;>try omega)|(refine BA (by assumption) ?_ rfl ?_;omega)|apply E5|apply AE)<;>conv=>whnf))
   refine FP (enc:=eQ) x rfl de.symm rfl (by omega) (by omega) ?_;rw[<-hs,vj];(conv=>whnf)
   (repeat' ((first|(apply AZ;omega)|fail)<;>conv=>whnf))
   exact BM [(11,62)] (ih (i+1) (by omega) (by omega))
  have ei:i=n:=by omega
  clear ih;rw[ei,zT (by omega)];(repeat' ((first|(apply AG<;>intro hc<;>try omega)|apply AE)<;>conv=>whnf))
  refine ⟨.e6 [.sl false (y.map eQ),.int .i64 0],?_,fc _ rfl⟩;(conv=>whnf)
  refine EE (enc:=eQ) (λ_=>rfl) rfl c2.symm ?_;(conv=>whnf)
  exact AX rfl (kZ y 0)
theorem Wy (N:au L) {w u:AM} {k l:Nat} (h:w.Sz k) (g:u.Sz l) (hk:k<=68719476736) (hl:l<=68719476736) (b:Bool) (hb:b=true↔w.v<u.v):Ev L 268 [.agg (eW w),.agg (eW u)] (.bool b):=by
 have hC:=Add N.toa5 h g hk hl;have hs:=uQ (x:=w.v) (y:=u.v);rw[<-hs]at hb;generalize n6 (w.v-u.v).num=s at *;refine Ev.x N.M7 rfl rfl ?_;(repeat' ((first|(apply AG<;>intro hc<;>try omega)|apply AE|refine AD (hC) ?_)<;>conv=>whnf))
 all_goals exact DM (by cases b<;>simp at hb ⊢ <;> omega)
theorem Zr (N:e7 L) {w:AM} {k l:Nat} (h:w.Fit l) (hl:l<2199023255552):Ev L 152 [.agg (eW w)] (.agg (eQ (-w.v))):=by
 have hx:=h.1;have hT:=cZ N.toa5 h.2 (Nat.le_refl _);generalize w.v=x at *;have hN:=λ q=>X8 N.toa5 (decide (x.num<0)) q (dg x.num.natAbs) ((hx.fi hl).1.le (by omega))
 rw[ES]at hN;refine Ev.x N.JI rfl rfl ?_;(repeat' ((first|apply AE|refine AD (hT) ?_|refine AD (hN _) ?_)<;>conv=>whnf))
 refine AX ?_ (DJ _);show _=AV.agg (rQ _ _ _ _ _);rw[Rat.neg_num,Rat.neg_den]
theorem Zg (N:e7 L) {w:AM} {x:Rat} {k l:Nat} (hx:Bt k x) (h:w.Fit l) (hk:k<2199023255552) (hl:l<2199023255552):Ev L 153 [.agg (eQ x),.agg (eW w)] (.agg (eQ (x-w.v))):=by
 have hn:Bt l (-w.v):=⟨by rw[Rat.neg_num,Int.natAbs_neg];exact h.1.1,by rw[Rat.neg_den];exact h.1.2⟩;have hN:=Zr (k:=l) N h hl;have hA:=cJ N.toa5 hx hn hk hl;rw[<-Rat.sub_eq_add_neg]at hA;have m5:=DJ (x-w.v);generalize x-w.v=d at *;generalize -w.v=m at *;refine Ev.x N.JL rfl rfl ?_;(repeat' ((first|apply AE|refine AD (hN) ?_|refine AD (hA) ?_)<;>conv=>whnf))
 exact AX rfl m5
theorem PZ (N:q8 L) (q:Bool) (g:List BC) (B:Nat) (hl:g.length<=12) (hf : ∀ p∈g,p.Fit B) (b:Bool) (hb:b=true↔FX (g.map BC.v)):Ev L 412 [.sl q (g.map EC)] (.bool b):=by
 have x8 : ∀ (i:Nat) (p:BC),g[i]? = some p->(g.map BC.v)[i]? = some p.v:=λ i p h=>by rw[List.getElem?_map,h];rfl
 have pf : ∀ j,¬ OQ (g.map BC.v) j->b=false:=λ j h=>by
  cases j7:b
  ·rfl
  ·exact absurd ((hb.1 j7).2 j) h
 refine Ev.x N.NJ rfl rfl ?_;by_cases h1:1<=g.length
 ·(repeat' ((first|(apply AG<;>intro hc<;>try omega)|apply AU|apply AE)<;>conv=>whnf))
  refine C5 (λ i=>g.length-i) (λ(i:Nat)=>i<=g.length /\ ∀ j,j<i->OQ (g.map BC.v) j) (λ i=>[(15,.int .i64 i)]) (λ_=>[]) 0 ⟨by omega,λ j h=>absurd h (by omega)⟩ ?_;intro i ⟨p1,p2⟩ ih;by_cases hi:i<g.length
  ·obtain ⟨p,hp⟩ : ∃ p,g[i]? = some p:=⟨_,zE hi⟩
   have wj:g[(i:Int).toNat]? = some p:=hp;obtain ⟨b1,b2,b3⟩:=hf p (zM hp);have hS:=oX N.toe7 b3.2 (by omega);have hs:=uS (x:=p.w.v);have kg:=x8 i p hp;by_cases h0:i=0
   ·by_cases z9:0<p.w.v
    ·have bp:=hs.2 z9
     have g6:OQ (g.map BC.v) i:=λ p' h=>by
      obtain rfl:=Option.some.inj (kg.symm.trans h);exact ⟨z9,λ_ h=>absurd h0 h⟩
     generalize n6 p.w.v.num=s at *;(repeat' ((first|(apply AG<;>intro hc<;>try omega)|(apply AZ;omega)|(refine BA (by assumption) ?_ rfl ?_;omega)|apply AE|refine AD (hS) ?_)<;>conv=>whnf))
     exact BM [] (ih (i+1) (by omega) ⟨by omega,λ j h=>by
      rcases Nat.lt_or_ge j i with h|h
      ·exact p2 j h
      ·rw[show j=i by omega];exact g6⟩)
    ·have bp : ¬ 0<n6 p.w.v.num:=λ h=>z9 (hs.1 h)
     obtain rfl:=pf i λ h=>z9 (h p.v kg).1
     generalize n6 p.w.v.num=s at *;clear ih;(repeat' ((first|(apply AG<;>intro hc<;>try omega)|(refine BA (by assumption) ?_ rfl ?_;omega)|apply AE|refine AD (hS) ?_)<;>conv=>whnf))
     exact DM rfl
   ·obtain ⟨p0,cq⟩ : ∃ p,g[i-1]? = some p:=⟨_,zE (by omega)⟩
    have Ch:g[((i:Int)-1).toNat]? = some p0:=by rw[show ((i:Int)-1).toNat=i-1 by omega];exact cq
    have uy:=x8 _ p0 cq;have hC:=λ b hb=>Wy N.toau (hf p0 (zM cq)).1.2 b1.2 (by omega) (by omega) b hb
    by_cases z9:0<p.w.v
    ·have bp:=hs.2 z9
     by_cases g9:p0.x.v<p.x.v
     ·have Aq:=hC true (by simp [g9])
      have g6:OQ (g.map BC.v) i:=λ p' h=>by
       obtain rfl:=Option.some.inj (kg.symm.trans h);refine ⟨z9,λ p0' _ h2 => ?_⟩;obtain rfl:=Option.some.inj (uy.symm.trans h2);exact g9
      generalize n6 p.w.v.num=s at *;(repeat' ((first|(apply AG<;>intro hc<;>try omega)|(apply AZ;omega)|(apply B1;omega)|(refine BA (by assumption) ?_ rfl ?_;omega)|apply AE|refine AD (hS) ?_|refine AD (Aq) ?_)<;>conv=>whnf))
      exact BM [] (ih (i+1) (by omega) ⟨by omega,λ j h=>by
       rcases Nat.lt_or_ge j i with h|h
       ·exact p2 j h
       ·rw[show j=i by omega];exact g6⟩)
     ·have Aq:=hC false (by simp [g9])
      obtain rfl:=pf i λ h=>g9 ((h p.v kg).2 p0.v h0 uy)
      generalize n6 p.w.v.num=s at *;clear ih;(repeat' ((first|(apply AG<;>intro hc<;>try omega)|(apply B1;omega)|(refine BA (by assumption) ?_ rfl ?_;omega)|apply AE|refine AD (hS) ?_|refine AD (Aq) ?_)<;>conv=>whnf))
      exact DM rfl
    ·have bp : ¬ 0<n6 p.w.v.num:=λ h=>z9 (hs.1 h)
     obtain rfl:=pf i λ h=>z9 (h p.v kg).1
     generalize n6 p.w.v.num=s at *;clear ih;(repeat' ((first|(apply AG<;>intro hc<;>try omega)|(refine BA (by assumption) ?_ rfl ?_;omega)|apply AE|refine AD (hS) ?_)<;>conv=>whnf))
     exact DM rfl
  ·obtain rfl:i=g.length:=by omega
   obtain rfl:=hb.2 ⟨by rw[List.length_map];exact h1,λ j p h=>p2 j (by have:=(zS h).1;rw[List.length_map]at this;exact this) p h⟩;clear ih p2;(repeat' ((first|(apply AG<;>intro hc<;>try omega)|apply AE)<;>conv=>whnf))
   exact DM rfl
 ·obtain rfl:b=false:=by
   cases j7:b
   ·rfl
   ·have:=(hb.1 j7).1
    rw[List.length_map]at this;omega
  (repeat' ((first|(apply AG<;>intro hc<;>try omega)|apply AU|apply AE)<;>conv=>whnf))
  exact DM rfl
theorem oJ (N:q8 L) (q q2:Bool) (g:List BC) (pw:List AM) (B k:Nat) (hl:g.length<=12) (hf : ∀ p∈g,p.Fit B) (ix:pw.length<=12) (Ci : ∀ w∈pw,w.Fit k) (hB:B<=1000000) (hk:k<=10000000) :
  Ev L 413 [.sl q (g.map EC),.sl q2 (pw.map eW)] (.agg (eQ (EV (g.map BC.v) (pw.map AM.v)))):=by
 have hO:=UX N.toa5 0 (by omega);have hb:=aU Ci;have va:(pw.map AM.v).length<=12:=by rw[List.length_map];exact ix
 have jf:=X4 hl hf va hb;have Jq:=λ(r:BC) (hr:r∈g)=>AdV N.toau q2 pw r.x k B ix Ci (hf r hr).1 hk (by omega)
 have w4 : ∀ x,Bt B x->Bt (12*(k+B+1)) (BF (pw.map AM.v) x):=λ x hx=>(US hx hb).le (zR _ va)
 have x8 : ∀ (i:Nat) (p:BC),g[i]? = some p->(g.map BC.v)[i]? = some p.v:=λ i p h=>by rw[List.getElem?_map,h];rfl
 have xj:(g.map BC.v).length=g.length:=List.length_map ..;generalize pw.map AM.v=p at *;generalize g.map BC.v=gv at *;refine Ev.x N.NK rfl rfl ?_;(repeat' ((first|apply AU|apply AE|refine AD (hO) ?_)<;>conv=>whnf))
 refine EI (λ i=>g.length-i) (λ(i:Nat)=>i<=g.length) (λ i=>[(12,.int .i64 i)]) (λ i=>[(5,5,.bx (eQ (EV (gv.take i) p)))]) [] [] 0 (by first|exact (by (conv=>whnf);exact ⟨rfl,rfl,rfl⟩)|(rw[List.take_zero];exact (by (conv=>whnf);exact ⟨rfl,rfl,rfl⟩))) (by omega) ?_;intro i p1 ih;by_cases hi:i<g.length
 ·obtain ⟨r,hr⟩ : ∃ p,g[i]? = some p:=⟨_,zE hi⟩
  have sf:g[(i:Int).toNat]? = some r:=hr;obtain ⟨b1,b2,b3⟩:=hf r (zM hr);have Jt:=Jq r (zM hr);have hS:=Zg N.toe7 (w4 r.x.v b1.1) b2 (by omega) (by omega);have hd:=(w4 r.x.v b1.1).aj b2.1;have hM:=Adv N.toa5 hd hd (by omega) (by omega);have y8:=Adw N.toa5 b3.2 (hd.mul hd) (by omega) (by omega);have hA:=cJ N.toa5 (jf i) (b3.1.mul (hd.mul hd)) (by omega) (by omega);have wi:EV (gv.take i) p+r.w.v*((BF p r.x.v-r.y.v)*(BF p r.x.v-r.y.v))=EV (gv.take (i+1)) p:=by
   rw[FU (x8 i r hr)];exact (QG r.v _ _).symm
  rw[wi]at hA;generalize BF p r.x.v=e at *;generalize e-r.y.v=d at *;generalize d*d=dd at *;generalize r.w.v*dd=wd at *;generalize EV (gv.take i) p=s0 at *;generalize mf:EV (gv.take (i+1)) p=s1 at hA;(repeat' ((first|(apply AG<;>intro hc<;>try omega)|(apply AZ;omega)|(refine BA (by assumption) ?_ rfl ?_;omega)|apply AE|refine AD (Jt) ?_|refine AD (hS) ?_|refine AD (hM) ?_|refine AD (y8) ?_|refine AD (hA) ?_)<;>conv=>whnf))
  subst mf;exact BM [] (ih (i+1) (by omega) (by omega))
 ·have ei:i=g.length:=by omega
  clear ih;rw[ei,zT (by omega)];(repeat' ((first|(apply AG<;>intro hc<;>try omega)|apply AE)<;>conv=>whnf))
  exact AX rfl (DJ _)
theorem Zx (N:q8 L) (q q2:Bool) (g:List BC) (pw:List AM) (B k:Nat) (hl:g.length<=12) (hf : ∀ p∈g,p.Fit B) (ix:pw.length<=12) (Ci : ∀ w∈pw,w.Fit k) (hB:B<=1000000) (hk:k<=10000000) :
  (FX (g.map BC.v)->Ev L 414 [.sl q (g.map EC),.sl q2 (pw.map eW)] (.e6 [.agg (eQ (EV (g.map BC.v) (pw.map AM.v))),.int .i64 0]))/\(¬ FX (g.map BC.v)->Ev L 414 [.sl q (g.map EC),.sl q2 (pw.map eW)] (.e6 [.agg (rQ false false false [] []),.int .i64 2])):=by
 have hS:=oJ N q q2 g pw B k hl hf ix Ci hB hk;refine ⟨λ v7 => ?_,λ v7 => ?_⟩
 ·have hV:=PZ N q g B hl hf true (by simp [v7])
  have m5:=kW (EV (g.map BC.v) (pw.map AM.v));generalize EV (g.map BC.v) (pw.map AM.v)=s at *;refine Ev.x N.JN rfl rfl ?_;(repeat' ((first|apply AE|refine AD (hV) ?_|refine AD (hS) ?_)<;>conv=>whnf))
  exact AX rfl m5
 ·have hV:=PZ N q g B hl hf false (by simp [v7])
  refine Ev.x N.JN rfl rfl ?_;(repeat' ((first|apply AE|refine AD (hV) ?_)<;>conv=>whnf))
  exact AX rfl (by simp [A2,B8,EZ])
end Go.b8

namespace Go.b8
open F
attribute [local irreducible] AA AF AQ AC CI AW A5 A9 B4 B3 CE DE BX A3 BW CD AB A4 AJ pw BV BN CS CR C1 CY CT BL DD
set_option maxHeartbeats 16000000
variable {L:Lib}
def bf (f:Nat->Nat->Rat) (t i D:Nat):List (Option Rat):=(List.range D).map λ j=>if j<i then some (f (t+1) j) else if t=0 then none else some (f t j)
section
variable {f:Nat->Nat->Rat} {t i D:Nat}
theorem RJ:(bf f t i D).length=D:=by simp [bf]
theorem VC {j:Nat} (h:j<D):(bf f t i D)[j]? = some (if j<i then some (f (t+1) j) else if t=0 then none else some (f t j)):=by simp [bf,h]
theorem sA (h:i<D):(bf f t i D).set i (some (f (t+1) i))=bf f t (i+1) D:=by
 refine List.ext_getElem? λ j => ?_
 by_cases hj:j<D
 ·rw[List.getElem?_set,VC hj,VC hj,RJ]
  by_cases e:i=j
  ·subst e
   rw[if_pos rfl,if_pos h,if_pos (by omega)]
  ·rw[if_neg e]
   by_cases g:j<i
   ·rw[if_pos g,if_pos (by omega)]
   ·rw[if_neg g,if_neg (show ¬ j<i+1 by omega)]
 ·rw[List.getElem?_eq_none (by rw[List.length_set,RJ];omega),List.getElem?_eq_none (by rw[RJ];omega)]
theorem YT (h:D<=i):bf f t i D=bf f (t+1) 0 D:=by
 refine List.map_congr_left λ j hj => ?_
 have:=List.mem_range.1 hj
 rw[if_pos (by omega),if_neg (by omega),if_neg (by omega)]
theorem sB:bf f 0 0 D=List.replicate D none:=by
 refine List.ext_getElem? λ j => ?_
 by_cases hj:j<D
 ·rw[VC hj,if_neg (by omega),if_pos rfl,List.getElem?_replicate,if_pos hj]
 ·rw[List.getElem?_eq_none (by rw[RJ];omega),List.getElem?_eq_none (by rw[List.length_replicate];omega)]
theorem rY (h:0<t):(bf f t 0 D).map eO=((List.range D).map (f t)).map eQ:=by
 rw[bf,List.map_map,List.map_map];refine List.map_congr_left λ j _ => ?_
 show eO (if _ then _ else _)=_;rw[if_neg (by omega),if_neg (by omega)];rfl
end
def oW:Option Rat->AM
 | none=>⟨false,[],[]⟩
 | some x=>GU x
theorem sO (o:Option Rat):(oW o).v=o.getD 0:=by
 cases o with
 | none=>decide
 | some x=>exact KB x
theorem sN {k:Nat} {o:Option Rat} (h:Bt k (o.getD 0)) (hk:k<2199023255552):(oW o).Fit k:=by
 cases o with
 | none=>exact ⟨h,QE _,QE _⟩
 | some x=>exact FL h hk
theorem Zv (N:q8 L) (q:Bool) (gw:List BC) (B:Nat) (hl:gw.length<=12) (hf : ∀ p∈gw,p.Fit B) (z:Int) (hz:FQ z) :
  (¬ FX (gw.map BC.v)->Ev L 415 [.sl q (gw.map EC),.int .i64 z] (.e6 [.sl false [],.agg (rQ false false false [] []),.int .i64 2])) /\
  (FX (gw.map BC.v)->z<0\/51<z->Ev L 415 [.sl q (gw.map EC),.int .i64 z] (.e6 [.sl false [],.agg (rQ false false false [] []),.int .i64 12])) /\
  (FX (gw.map BC.v)->0<=z/\z<=51->(gw.length:Int)<z+1->Ev L 415 [.sl q (gw.map EC),.int .i64 z] (.e6 [.sl false [],.agg (rQ false false false [] []),.int .i64 11])):=by
 obtain ⟨z1,z2⟩:=hz;refine ⟨λ h => ?_,λ h h2 => ?_,λ h h2 h3 => ?_⟩
 ·have hV:=PZ N q gw B hl hf false (by simp [h])
  refine Ev.x N.G8 rfl rfl ?_;(repeat' ((first|apply AE|refine AD (hV) ?_)<;>conv=>whnf))
  exact AX rfl (by simp [A2,B8,EZ])
 ·have hV:=PZ N q gw B hl hf true (by simp [h])
  refine Ev.x N.G8 rfl rfl ?_;rcases h2 with h2|h2
  all_goals
   (repeat' ((first|(apply AG<;>intro hc<;>try omega)|apply AE|refine AD (hV) ?_)<;>conv=>whnf))
   exact AX rfl (by simp [A2,B8,EZ])
 ·have hV:=PZ N q gw B hl hf true (by simp [h])
  refine Ev.x N.G8 rfl rfl ?_;(repeat' ((first|(apply AG<;>intro hc<;>try omega)|(apply AZ;omega)|apply AU|apply AE|refine AD (hV) ?_)<;>conv=>whnf))
  exact AX rfl (by simp [A2,B8,EZ])
def xW (p:BC):Nat->AM
 | 0=>p.w
 | j+1=>GU (p.w.v*p.x.v^(j+1))
theorem Agx {n:Nat} (h:1<=n/\n<=6):10*FH 70000 n<=100000000000:=by
 rcases gS h with rfl|rfl|rfl|rfl|rfl|rfl<;>decide
theorem tP {B:Nat} {x:Rat} (h:Bt B x) : ∀ k,Bt (k*B) (x^k)
 | 0=>by rw[Rat.pow_zero];exact Bt.one _
 | k+1=>by
  rw[Rat.pow_succ,Nat.add_mul,Nat.one_mul];exact (tP h k).mul h
theorem Zw (N:q8 L) (q:Bool) (gw:List BC) (g:List Pt) (lz:gw.map BC.v=g) (d B:Nat) (xj:1<=gw.length/\gw.length<=12) (hf : ∀ p∈gw,p.Fit B) (hB:B<=400) (hval:FX g) (hd:d<=5) (lv:d+1<=gw.length)
  (c:List Rat) (m5:c.length=d+1) (hco:KF g (d+1) c) (jd:Bs 2000000 c) :
  Ev L 415 [.sl q (gw.map EC),.int .i64 d] (.e6 [.sl false ((CP c).map eQ),.agg (eQ (EV g (CP c))),.int .i64 0]):=by
 have hV:=PZ N q gw B (by omega) hf true (by rw[lz];simp [hval]);have Ft:g.length=gw.length:=by rw[<-lz,List.length_map]
 obtain ⟨n,hn⟩ : ∃ n,gw.length=n:=⟨_,rfl⟩;have cn:=pS hval.ok (n:=d+1) (by omega);have x8 : ∀ (i:Nat) (p:BC),gw[i]? = some p->g[i]? = some p.v:=λ i p h=>by rw[<-lz,List.getElem?_map,h];rfl
 have Ez:=λ q=>AdW N.tov5 q c 2000000 jd (by omega) (by omega)
 have zh:=λ q2=>oJ N q q2 gw (wR (CP c)) B 2000000 (by omega) hf (by rw[wR,List.length_map,R4];have:=OY c c.length;omega) (λ w hw=>by
  obtain ⟨y,hy,rfl⟩:=List.mem_map.1 hw;exact FL (jd.trim y hy) (by omega)) (by omega) (by omega)
 rw[ST,QJ,lz]at zh;obtain ⟨F,hF⟩ : ∃ F:Nat->Nat->Rat,F=λ t j=>bz (g.take t) j:=⟨_,rfl⟩
 obtain ⟨G,hG⟩ : ∃ G:Nat->Nat->Rat,G=λ t j=>rhs (g.take t) j:=⟨_,rfl⟩
 obtain ⟨D,hD⟩ : ∃ D,D=2*d+1:=⟨_,rfl⟩;have hFn : ∀ (t j:Nat) (p:BC),gw[t]? = some p->F (t+1) j=F t j+p.w.v*p.x.v^j:=λ t j p h=>by
  rw[hF];show bz (g.take (t+1)) j=bz (g.take t) j+_;rw[FU (x8 t p h)];exact QG p.v _ _
 have hGn : ∀ (t j:Nat) (p:BC),gw[t]? = some p->G (t+1) j=G t j+p.w.v*p.x.v^j*p.y.v:=λ t j p h=>by
  rw[hG];show rhs (g.take (t+1)) j=rhs (g.take t) j+_;rw[FU (x8 t p h)];exact QG p.v _ _
 have hF0 : ∀ j,F 0 j=0:=λ j=>by rw[hF];show bz (g.take 0) j=0;rw[List.take_zero];rfl
 have En : ∀ j,G 0 j=0:=λ j=>by rw[hG];show rhs (g.take 0) j=0;rw[List.take_zero];rfl
 have xv : ∀ (j:Nat) (p:Pt),p∈g->j<=11->Bt (12*B) (p.w*p.x^j)/\Bt B p.y:=λ j p hp hj=>by
  rw[<-lz]at hp;obtain ⟨r,hr,rfl⟩:=List.mem_map.1 hp;obtain ⟨b1,b2,b3⟩:=hf r hr;have:=S5 B hj
  exact ⟨(b3.1.mul (tP b1.1 j)).le (by omega),b2.1⟩
 have Cd : ∀ l:List Pt,l.length<=12->(∀ p∈l,p∈g) -> ∀ j,j<=11->Bt 60000 (bz l j)/\Bt 70000 (rhs l j):=λ l hl hm j hj=>by
  constructor
  ·exact (ZZ (k:=12*B) λ p hp=>(xv j p (hm p hp) hj).1).le (by
    have:=Nat.mul_le_mul hl (show 12*B+1<=4801 by omega)
    omega)
  ·exact (ZZ (k:=13*B) λ p hp=>by
    obtain ⟨h1,h2⟩:=xv j p (hm p hp) hj;exact (h1.mul h2).le (by omega)).le (by
    have:=Nat.mul_le_mul hl (show 13*B+1<=5201 by omega)
    omega)
 have hFb : ∀ t j,j<=11->Bt 60000 (F t j):=λ t j hj=>by
  rw[hF];exact (Cd (g.take t) (by rw[List.length_take];omega) (λ p hp=>List.mem_of_mem_take hp) j hj).1
 have hGb : ∀ t j,j<=11->Bt 70000 (G t j):=λ t j hj=>by
  rw[hG];exact (Cd (g.take t) (by rw[List.length_take];omega) (λ p hp=>List.mem_of_mem_take hp) j hj).2
 have Ji:Ms 70000 (GR g (d+1)):=λ r hr x hx=>by
  obtain ⟨i,hi,rfl⟩:=List.mem_map.1 hr;obtain ⟨j,hj,rfl⟩:=List.mem_map.1 hx;have:=List.mem_range.1 hi
  have:=List.mem_range.1 hj
  exact ((Cd g (by omega) (λ_ h=>h) (i+j) (by omega)).1).le (by omega)
 have hRb:Bs 70000 (GT g (d+1)):=λ x hx=>by
  obtain ⟨i,hi,rfl⟩:=List.mem_map.1 hx;have:=List.mem_range.1 hi
  exact (Cd g (by omega) (λ_ h=>h) i (by omega)).2
 have Hb : ∀ y:List Rat,y.length=d+1->(∀ (i:Nat) (r:List Rat) (s:Rat),(GR g (d+1))[i]? = some r->(GT g (d+1))[i]? = some s->A6 r y=s)->y=c:=λ y hy h=>Af3 hval.ok (by omega) hy m5 (tF hy h) hco
 have af:(List.range D).map (F n)=(List.range D).map (bz g)/\(List.range (d+1)).map (G n)=GT g (d+1):=by
  rw[hF,hG,GT];exact ⟨List.map_congr_left λ j _=>by show bz (g.take n) j=_;rw[zT (by omega)],List.map_congr_left λ j _=>by show rhs (g.take n) j=_;rw[zT (by omega)]⟩
 clear hF hG;refine Ev.x N.G8 rfl rfl ?_;(repeat' ((first|(apply AG<;>intro hc<;>try omega)|(apply AZ;omega)|(apply N0;omega)|apply AU|apply AE|refine AD (hV) ?_)<;>conv=>whnf))
 refine EJ (enc:=eO) none D rfl (by omega) (by omega) ?_;(conv=>whnf)
 (repeat' ((first|(apply AZ;omega)|fail)<;>conv=>whnf))
 refine EJ (enc:=eO) none (d+1) rfl (by omega) (by omega) ?_;(conv=>whnf)
 (repeat' (apply AU<;>conv=>whnf))
 rw[<-sB (f:=F),<-sB (f:=G)];refine C5 (λ t=>n-t) (λ(t:Nat)=>t<=n) (λ t=>[(47,.int .i64 t)]) (λ t=>[(41,41,.rw 3 ((bf F t 0 D).map eO)),(44,44,.rw 3 ((bf G t 0 (d+1)).map eO))]) 0 (by omega) ?_;intro t t1 th;by_cases ht:t<n
 ·obtain ⟨p,hp⟩ : ∃ p,gw[t]? = some p:=⟨_,zE (by omega)⟩
  have wj:gw[(t:Int).toNat]? = some p:=hp;obtain ⟨b1,b2,b3⟩:=hf p (zM hp);have kg:=λ j hj=>xv j p.v (zM (x8 t p hp)) hj
  have Hv : ∀ j,(xW p j).v=p.w.v*p.x.v^j:=λ j=>by
   cases j with
   | zero=>show p.w.v=_;rw[Rat.pow_zero,Rat.mul_one]
   | succ j=>exact KB _
  have Hu : ∀ j,j<=11->(xW p j).Fit (12*B):=λ j hj=>by
   cases j with
   | zero=>exact ⟨b3.1.le (by omega),b3.2⟩
   | succ j=>exact FL (kg (j+1) hj).1 (by omega)
  have hlM:=RJ (f:=F) (t:=t) (i:=0) (D:=D);(repeat' ((first|(apply AG<;>intro hc<;>try omega)|(refine BA (by assumption) ?_ rfl ?_;omega)|apply AE)<;>conv=>whnf))
  refine C5 (λ j=>D-j) (λ(j:Nat)=>j<=D) (λ j=>[(55,.int .i64 j)]) (λ j=>[(41,41,.rw 3 ((bf F t j D).map eO)),(44,44,.rw 3 ((bf G t j (d+1)).map eO)),(11,11,.bx (eW (xW p j)))]) 0 (by omega) ?_;intro j j1 jh;by_cases hj:j<D
  ·have yu:j<=11:=by omega
   have ho:=VC (f:=F) (t:=t) (i:=j) hj;rw[if_neg (Nat.lt_irrefl j)]at ho;obtain ⟨o,Dm⟩ : ∃ o,o=if t=0 then none else some (F t j):=⟨_,rfl⟩
   have Ig:o.getD 0=F t j:=by
    rw[Dm];by_cases e:t=0
    ·rw[if_pos e,e];exact (hF0 j).symm
    ·rw[if_neg e];rfl
   rw[<-Dm]at ho;have hA:=X7 N.toa5 (sN (o:=o) (by rw[Ig];exact hFb t j yu) (by omega)).2 (Hu j yu).2 (Nat.le_refl _) (Nat.le_refl _);rw[sO,Ig,Hv,<-hFn t j p hp]at hA;have g8:=sA (f:=F) (t:=t) hj;have mb:=RJ (f:=F) (t:=t) (i:=j) (D:=D);have fr:=RJ (f:=G) (t:=t) (i:=j) (D:=d+1);have hM:=UW N.toa5 (Hu j yu).2 b1.2 (Nat.le_refl _) (Nat.le_refl _);rw[Hv,show p.w.v*p.x.v^j*p.x.v=p.w.v*p.x.v^(j+1) by rw[Rat.pow_succ,Rat.mul_assoc]]at hM;generalize bf F t j D=M0 at *;generalize F (t+1) j=f1 at *;by_cases Ps:j<d+1
   ·have hu:=VC (f:=G) (t:=t) (i:=j) Ps
    rw[if_neg (Nat.lt_irrefl j)]at hu;obtain ⟨u,Ha⟩ : ∃ o,o=if t=0 then none else some (G t j):=⟨_,rfl⟩
    have Mw:u.getD 0=G t j:=by
     rw[Ha];by_cases e:t=0
     ·rw[if_pos e,e];exact (En j).symm
     ·rw[if_neg e];rfl
    have Lq:(t=0/\o=none/\u=none)\/(∃ x y,o=some x/\u=some y):=by
     by_cases e:t=0
     ·exact Or.inl ⟨e,by rw[Dm,if_pos e],by rw[Ha,if_pos e]⟩
     ·exact Or.inr ⟨_,_,by rw[Dm,if_neg e],by rw[Ha,if_neg e]⟩
    rw[<-Ha]at hu;have y8:=UW N.toa5 (Hu j yu).2 b2.2 (Nat.le_refl _) (Nat.le_refl _);have o7:=((Hu j yu).1.mul b2.1);have Ap:=X7 N.toa5 (sN (o:=u) (by rw[Mw];exact hGb t j yu) (by omega)).2 (FL o7 (by omega)).2 (Nat.le_refl _) (Nat.le_refl _);rw[sO,Mw,KB,Hv,<-hGn t j p hp]at Ap;rw[Hv]at y8;have vh:=sA (f:=G) (t:=t) Ps;generalize bf G t j (d+1)=M1 at *;generalize G (t+1) j=g1 at *;generalize Ir:p.w.v*p.x.v^(j+1)=x1 at hM;clear Dm Ha Ig Mw;rcases Lq with ⟨_,rfl,rfl⟩|⟨_,_,rfl,rfl⟩
    all_goals
     (repeat' ((first|(apply AG<;>intro hc<;>try omega)|(apply AY;omega)|apply AE)<;>conv=>whnf))
     refine JV (l:=M0) (enc:=eO) (by rw[Nat.zero_add,Int.toNat_natCast];exact ho) rfl ?_;(conv=>whnf)
     (repeat' ((first|(apply AY;omega)|refine AD (hA) ?_)<;>conv=>whnf))
     refine ET (enc:=eO) (some f1) rfl (λ e=>by cases e<;>rfl) (by omega) ?_;(conv=>whnf)
     rw[g8];(repeat' ((first|(apply AG<;>intro hc<;>try omega)|(apply AY;omega))<;>conv=>whnf))
     refine JV (l:=M1) (enc:=eO) (by rw[Nat.zero_add,Int.toNat_natCast];exact hu) rfl ?_;(conv=>whnf)
     (repeat' ((first|(apply AY;omega)|refine AD (y8) ?_|refine AD (Ap) ?_)<;>conv=>whnf))
     refine ET (enc:=eO) (some g1) rfl (λ e=>by cases e<;>rfl) (by omega) ?_;(conv=>whnf)
     rw[vh];(repeat' ((first|(apply AZ;omega)|refine AD (hM) ?_)<;>conv=>whnf))
     subst Ir;exact BM [] (jh (j+1) (by omega) (by omega))
   ·have vh:bf G t j (d+1)=bf G t (j+1) (d+1):=(YT (i:=j) (by omega)).trans (YT (i:=j+1) (by omega)).symm
    rw[vh];generalize Ir:p.w.v*p.x.v^(j+1)=x1 at hM;have Lq:o=none \/ ∃ x,o=some x:=by cases o<;>simp
    clear Dm Ig;rcases Lq with rfl|⟨_,rfl⟩
    all_goals
     (repeat' ((first|(apply AG<;>intro hc<;>try omega)|(apply AY;omega)|apply AE)<;>conv=>whnf))
     refine JV (l:=M0) (enc:=eO) (by rw[Nat.zero_add,Int.toNat_natCast];exact ho) rfl ?_;(conv=>whnf)
     (repeat' ((first|(apply AY;omega)|refine AD (hA) ?_)<;>conv=>whnf))
     refine ET (enc:=eO) (some f1) rfl (λ e=>by cases e<;>rfl) (by omega) ?_;(conv=>whnf)
     rw[g8];(repeat' ((first|(apply AG<;>intro hc<;>try omega)|(apply AZ;omega)|refine AD (hM) ?_)<;>conv=>whnf))
     subst Ir;exact BM [] (jh (j+1) (by omega) (by omega))
  ·have ej:j=D:=by omega
   clear jh;rw[ej,YT (Nat.le_refl _),YT (D:=d+1) (by omega)];(repeat' ((first|(apply AG<;>intro hc<;>try omega)|(apply AZ;omega)|apply AE)<;>conv=>whnf))
   exact BM [] (th (t+1) (by omega) (by omega))
 ·have et:t=n:=by omega
  clear th;rw[et,rY (by omega),rY (by omega),af.1,af.2];have Ld : ∀ i,i<d+1->(GR g (d+1))[i]? = some ((((List.range D).map (bz g)).drop i).take (d+1)):=λ i hi=>by
   rw[GR,List.getElem?_map,List.getElem?_range hi,Option.map_some];congr 1;refine List.ext_getElem? λ j => ?_
   by_cases hj:j<d+1
   ·rw[List.getElem?_map,List.getElem?_range hj,List.getElem?_take,if_pos hj,List.getElem?_drop,List.getElem?_map,List.getElem?_range (by omega)]
    rfl
   ·rw[List.getElem?_eq_none (by simp;omega),List.getElem?_eq_none (by simp;omega)]
  have hga:=dK g (d+1);have ma:=pT g (d+1);have jn:(GT g (d+1)).length=d+1:=by simp [GT]
  have On:((List.range D).map (bz g)).length=D:=by simp
  generalize (List.range D).map (bz g)=MM at *;generalize GR g (d+1)=A at *;generalize GT g (d+1)=R at *;(repeat' ((first|(apply AG<;>intro hc<;>try omega)|apply AE)<;>conv=>whnf))
  refine WG 13 13 rfl ?_;refine C5 (λ i=>d+1-i) (λ(i:Nat)=>i<=d+1) (λ i=>[(14,.int .i64 i),(13,.row 13 0 1 0 i)]) (λ i=>[(13,13,.mx (BK 3 eQ (A.take i)))]) 0 (by omega) ?_;intro i p1 ih;have Du:(A.take i).length=i:=by rw[List.length_take];omega
  by_cases hi:i<d+1
  ·obtain ⟨r,hr⟩ : ∃ r,A[i]? = some r:=⟨_,zE (by omega)⟩
   have iy:=Option.some.inj ((Ld i hi).symm.trans hr);have yb:=ma r (zM hr);have Dv:=FU hr;have vj:(A.take (i+1)).length=i+1:=by rw[List.length_take];omega
   (repeat' ((first|(apply AG<;>intro hc<;>try omega)|(apply AZ;omega)|(apply iZ;omega)|apply AE)<;>conv=>whnf))
   refine UA (by omega) ?_;rw[show 0+((i:Int)).toNat=i by omega,show ((i:Int)+(d:Int)+1).toNat-((i:Int)).toNat=d+1 by omega,iy];(conv=>whnf)
   refine OJ (enc:=eQ) (λ_=>rfl) (by omega) (by omega) ?_;(conv=>whnf)
   skip
   refine AY (by rw[List.length_map]) ?_;refine WH (r:=r) (en:=eQ) Du.symm (by omega) (by omega) ?_;rw[<-Dv,vj];(conv=>whnf)
   (repeat' ((first|(apply AZ;omega)|fail)<;>conv=>whnf))
   exact BM [(13,103)] (ih (i+1) (by omega) (by omega))
  ·have ei:i=d+1:=by omega
   clear ih;rw[ei,zT (by omega)];obtain ⟨v,Hn,Ow⟩:=AdX N.tokp true true true (wM A) (wR R) (d+1) 70000 (Z9 hga) (aA ma) (by rw[wR,List.length_map];exact jn) (λ w hw=>by
    obtain ⟨y,hy,rfl⟩:=List.mem_map.1 hw;exact FL (hRb y hy) (by omega)) (by omega) (DZ.of Ji (by omega)) (by omega) (Agx (by omega))
   rw[mY,ST]at Hn;rw[TU,QJ]at Ow;rcases Ow with ⟨h,_⟩|⟨_,y,rfl,sv,_,sz⟩
   ·exact absurd cn h
   obtain rfl:=Hb y sv sz;(repeat' ((first|(apply AG<;>intro hc<;>try omega)|apply AE)<;>conv=>whnf))
   refine QS (λ_=>rfl) rfl (by omega) ?_;(conv=>whnf)
   refine EE (enc:=eQ) (λ_=>rfl) rfl (by omega) ?_;(conv=>whnf)
   (repeat' ((first|(apply AG<;>intro hc<;>try omega)|refine AD (Hn) ?_|refine AD (Ez _) ?_|refine AD (zh _) ?_)<;>conv=>whnf))
   exact AX rfl (by
    simp only[A2,B8,and_true,true_and];exact ⟨IZ _,⟨B5 _,B5 _⟩⟩)
end Go.b8

namespace Go.b8
open F
attribute [local irreducible] AA AF AQ AC CI AW A5 A9 B4 B3 CE DE BX A3 BW CD AB A4 AJ pw BV BN CS CR C1 CY CT BL DD
variable {L:Lib}
set_option maxHeartbeats 16000000
def PA (w:AM):Bool:=decide (w.m.length<=2)&&decide (w.d.length<=2)
def PG (p:List AM):Bool:=decide (p.length<=8)&&p.all PA
theorem AfS {w:AM} (h:w.Raw) (ho:PA w=true):w.Fit 64:=by
 simp only[PA,Bool.and_eq_true,decide_eq_true_eq]at ho;exact AM.Sz.fit (k:=2) ⟨⟨h.1.1,ho.1⟩,h.2.1,ho.2⟩ (by omega)
theorem uV {p:List AM} (h : ∀ w∈p,w.Raw) (ho:PG p=true):p.length<=8 /\ ∀ w∈p,w.Fit 64:=by
 simp only[PG,Bool.and_eq_true,decide_eq_true_eq,List.all_eq_true]at ho;exact ⟨ho.1,λ w hw=>AfS (h w hw) (ho.2 w hw)⟩
theorem nT (N:eb L) (q:Bool) (p:List AM) (hp:p.length<9223372036854775808) (hr : ∀ w∈p,w.Raw):Ev L 408 [.sl q (p.map eW)] (.bool (PG p)):=by
 by_cases h8:p.length<=8
 ·rw[PG,decide_eq_true h8,Bool.true_and]
  refine Ev.x N.I6 rfl rfl ?_;(repeat' ((first|(apply AG<;>intro hc<;>try omega)|apply AU|apply AE)<;>conv=>whnf))
  refine C5 (λ i=>p.length-i) (λ(i:Nat)=>i<=p.length /\ ∀ (j:Nat) (x:AM),j<i->p[j]? = some x->PA x=true) (λ i=>[(10,.int .i64 i)]) (λ_=>[]) 0 ⟨by omega,λ j x hj=>absurd hj (by omega)⟩ ?_;intro i ⟨p1,p2⟩ ih;by_cases hi:i<p.length
  ·obtain ⟨x,hx⟩ : ∃ x,p[i]? = some x:=⟨_,zE (by omega)⟩
   have mi:p[(i:Int).toNat]? = some x:=hx;have Qn:=hr x (zM hx);have hm9:=Qn.1.2;have hd9:=Qn.2.2;by_cases g6:x.m.length<=2/\x.d.length<=2
   ·have hk:PA x=true:=by rw[PA,decide_eq_true g6.1,decide_eq_true g6.2];rfl
    (repeat' ((first|(apply AG<;>intro hc<;>try omega)|(apply AZ;omega)|apply AU|(refine BA (by assumption) ?_ rfl ?_;omega)|apply AE)<;>conv=>whnf))
    exact BM [] (ih (i+1) (by omega) ⟨by omega,λ j y hj hy=>by
     by_cases e:j=i
     ·subst e;rw[hx]at hy;obtain rfl:=Option.some.inj hy;exact hk
     ·exact p2 j y (by omega) hy⟩)
   ·have hk:PA x=false:=by
     cases e:PA x
     ·rfl
     ·simp only[PA,Bool.and_eq_true,decide_eq_true_eq]at e
      exact absurd e g6
    rw[W6 hx hk];clear ih p2;(repeat' ((first|(apply AG<;>intro hc<;>try omega)|apply AU|(refine BA (by assumption) ?_ rfl ?_;omega)|apply AE)<;>conv=>whnf))
    all_goals exact DM rfl
  ·obtain rfl:i=p.length:=by omega
   clear ih;rw[W5 λ j x hx=>p2 j x (zS hx).1 hx];(repeat' ((first|(apply AG<;>intro hc<;>try omega)|apply AE)<;>conv=>whnf))
   exact DM rfl
 ·rw[PG,decide_eq_false h8,Bool.false_and]
  refine Ev.x N.I6 rfl rfl ?_;(repeat' ((first|(apply AG<;>intro hc<;>try omega)|apply AU|apply AE)<;>conv=>whnf))
  exact DM rfl
end Go.b8

namespace Go.b8
open F
attribute [local irreducible] AA AF AQ AC CI AW A5 A9 B4 B3 CE DE BX A3 BW CD AB A4 AJ pw BV BN CS CR C1 CY CT BL DD
set_option maxHeartbeats 16000000
variable {L:Lib}
theorem uN {K:Nat} (hK:768<=K) {l:List Rat} (hl:l.length<=12) (hb:Bs 64 l):Wh K (BI l)/\0<BI l /\ ∀ x∈l,Wh (64+K) (x*BI l):=by
 obtain ⟨S,e,s1,s2,s3⟩:=AgV hb;have s4:S<=2^K:=Nat.le_trans s2 (Nat.pow_le_pow_right (by omega) (by omega));have w:Wh K (BI l):=⟨(S:Int),by rw[e,Rat.intCast_natCast],by simpa using s4⟩;refine ⟨w,by rw[e];exact Rat.natCast_pos.2 s1,λ x hx => ?_⟩;obtain ⟨z,hz⟩:=s3 x hx;have hm:=(hb x hx).mul w.bt;rw[e,hz]at hm;exact ⟨z,by rw[e];exact hz,by have:=hm.1;rwa [Rat.num_intCast]at this⟩
theorem TL {l:List Rat} (hl:l.length<=12) (hb:Bs 64 l):(∀ i,Bt 768 (BI (l.take i)))/\Wh 768 (BI l)/\0<BI l /\ ∀ x∈l,Wh 832 (x*BI l):=by
 obtain ⟨h1,h2,h3⟩:=uN (Nat.le_refl 768) hl hb;exact ⟨λ i=>((uN (Nat.le_refl 768) (l:=l.take i) (by rw[List.length_take];omega) λ x hx=>hb x (List.mem_of_mem_take hx)).1).bt,h1,h2,h3⟩
theorem Agt {g:List Pt} (hl:g.length<=12) (g6:SD g) (hb : ∀ p∈g,Bt 64 p.x/\Bt 64 p.y/\Bt 64 p.w):NZ 832 832 832 (E4 g):=by
 have bx:Bs 64 (g.map (·.x)):=λ z hz=>by obtain ⟨p,hp,rfl⟩:=List.mem_map.1 hz;exact (hb p hp).1
 have qg:Bs 64 (g.map (·.y)):=λ z hz=>by obtain ⟨p,hp,rfl⟩:=List.mem_map.1 hz;exact (hb p hp).2.1
 have bw:Bs 64 (g.map (·.w)):=λ z hz=>by obtain ⟨p,hp,rfl⟩:=List.mem_map.1 hz;exact (hb p hp).2.2
 obtain ⟨_,_,px,x2⟩:=TL (by rw[List.length_map];exact hl) bx;obtain ⟨_,_,_,y2⟩:=TL (by rw[List.length_map];exact hl) qg
 obtain ⟨_,_,pw,w2⟩:=TL (by rw[List.length_map];exact hl) bw;refine ⟨⟨?_,λ p hp => ?_⟩,λ p hp => ?_,λ p hp => ?_,λ p hp => ?_⟩
 ·rw[E4,List.map_map,List.pairwise_map]
  have h1:=g6.ne;rw[List.pairwise_map]at h1;refine h1.imp λ k8 e => ?_
  simp only[Function.comp,VU]at e;exact k8 (fA (λ h0=>by rw[h0]at px;exact absurd px (Rat.lt_irrefl)) e)
 ·obtain ⟨q,hq,rfl⟩:=List.mem_map.1 hp
  exact Rat.mul_pos (g6.pos q hq) pw
 ·obtain ⟨q,hq,rfl⟩:=List.mem_map.1 hp
  exact x2 _ (List.mem_map.2 ⟨q,hq,rfl⟩)
 ·obtain ⟨q,hq,rfl⟩:=List.mem_map.1 hp
  exact w2 _ (List.mem_map.2 ⟨q,hq,rfl⟩)
 ·obtain ⟨q,hq,rfl⟩:=List.mem_map.1 hp
  exact y2 _ (List.mem_map.2 ⟨q,hq,rfl⟩)
def TM (g:List BC):Bool:=decide (g.length<=10)&&g.all λ p=>PG [p.x,p.y,p.w]
def BC.Raw (p:BC):Prop:=p.x.Raw/\p.y.Raw/\p.w.Raw
theorem Ag2 {g:List BC} (h : ∀ p∈g,p.Raw) (ho:TM g=true):g.length<=10 /\ ∀ p∈g,p.Fit 64:=by
 simp only[TM,Bool.and_eq_true,decide_eq_true_eq,List.all_eq_true]at ho;refine ⟨ho.1,λ p hp => ?_⟩;obtain ⟨r1,r2,r3⟩:=h p hp;obtain ⟨_,f⟩:=uV (p:=[p.x,p.y,p.w]) (λ w hw=>by
  simp only[List.mem_cons,List.not_mem_nil,or_false]at hw;rcases hw with rfl|rfl|rfl
  ·exact r1
  ·exact r2
  ·exact r3) (ho.2 p hp)
 exact ⟨f _ (by simp),f _ (by simp),f _ (by simp)⟩
section
variable (N:mw L)
include N
theorem Zd (q:Bool) (g:List BC) (hg:g.length<9223372036854775808) (hr : ∀ p∈g,p.Raw):Ev L 416 [.sl q (g.map EC)] (.bool (TM g)):=by
 by_cases h4:g.length<=10
 ·rw[TM,decide_eq_true h4,Bool.true_and]
  refine Ev.x N.I2 rfl rfl ?_;(repeat' ((first|(apply AG<;>intro hc<;>try omega)|apply AU|apply AE)<;>conv=>whnf))
  refine C5 (λ i=>g.length-i) (λ(i:Nat)=>i<=g.length /\ ∀ (j:Nat) (x:BC),j<i->g[j]? = some x->PG [x.x,x.y,x.w]=true) (λ i=>[(10,.int .i64 i)]) (λ_=>[]) 0 ⟨by omega,λ j x h _=>absurd h (by omega)⟩ ?_;intro i ⟨p1,p2⟩ ih;by_cases hi:i<g.length
  ·obtain ⟨x,hx⟩ : ∃ x,g[i]? = some x:=⟨_,zE (by omega)⟩
   have mi:g[(i:Int).toNat]? = some x:=hx;obtain ⟨r1,r2,r3⟩:=hr x (zM hx);have hS:=λ q=>nT N.toeb q [x.x,x.y,x.w] (by simp) (λ w hw=>by
    simp only[List.mem_cons,List.not_mem_nil,or_false]at hw;rcases hw with rfl|rfl|rfl
    ·exact r1
    ·exact r2
    ·exact r3)
   cases hs:PG [x.x,x.y,x.w]
   ·simp only[hs]at hS
    rw[W6 hx hs];clear ih p2;(repeat' ((first|(apply AG<;>intro hc<;>try omega)|(refine BA (by assumption) ?_ rfl ?_;omega)|apply AE)<;>conv=>whnf))
    refine jW rfl rfl ?_;(conv=>whnf)
    (repeat' (refine AD (hS _) ?_<;>conv=>whnf))
    all_goals exact DM rfl
   ·simp only[hs]at hS
    (repeat' ((first|(apply AG<;>intro hc<;>try omega)|(refine BA (by assumption) ?_ rfl ?_;omega)|apply AE)<;>conv=>whnf))
    refine jW rfl rfl ?_;(conv=>whnf)
    (repeat' ((first|(apply AZ;omega)|refine AD (hS _) ?_)<;>conv=>whnf))
    exact BM [] (ih (i+1) (by omega) ⟨by omega,λ j y hj hy=>by
     by_cases e:j=i
     ·subst e;rw[hx]at hy;obtain rfl:=Option.some.inj hy;exact hs
     ·exact p2 j y (by omega) hy⟩)
  ·obtain rfl:i=g.length:=by omega
   clear ih;rw[W5 λ j x hx=>p2 j x (zS hx).1 hx];(repeat' ((first|(apply AG<;>intro hc<;>try omega)|apply AE)<;>conv=>whnf))
   exact DM rfl
 ·rw[TM,decide_eq_false h4,Bool.false_and]
  refine Ev.x N.I2 rfl rfl ?_;(repeat' ((first|(apply AG<;>intro hc<;>try omega)|apply AU|apply AE)<;>conv=>whnf))
  exact DM rfl
theorem Su (q:Bool) (g:List BC) (hl:g.length<=12) (hf : ∀ p∈g,p.Fit 64) : ∃ b:Bool,Ev L 261 [.sl q (g.map EC)] (.bool b)/\Ev L 412 [.sl q (g.map EC)] (.bool b):=by
 rcases Classical.em (FX (g.map BC.v)) with h|h
 ·exact ⟨true,PY N.toj8 q g 64 hl hf true (by simp [h]),PZ N.toq8 q g 64 hl hf true (by simp [h])⟩
 ·exact ⟨false,PY N.toj8 q g 64 hl hf false (by simp [h]),PZ N.toq8 q g 64 hl hf false (by simp [h])⟩
theorem Ss (q q2:Bool) (g:List BC) (hl:g.length<=12) (hf : ∀ p∈g,p.Fit 64) (pw:List AM) (hp:pw.length<=8 /\ ∀ w∈pw,w.Fit 64) :
  ∃ (x:AM) (e:Int),Ev L 262 [.sl q (g.map EC),.sl q2 (pw.map eW)] (.e6 [.agg (eW x),.int .i64 e])/\Ev L 414 [.sl q (g.map EC),.sl q2 (pw.map eW)] (.e6 [.agg (eW x),.int .i64 e])/\Ev L 158 [.agg (eW x),.agg (eW x)] (.bool true):=by
 obtain ⟨a1,a2⟩:=nW N.toj8 q q2 g pw 64 64 hl hf (by omega) hp.2 (by omega) (by omega);obtain ⟨b1,b2⟩:=Zx N.toq8 q q2 g pw 64 64 hl hf (by omega) hp.2 (by omega) (by omega);rcases Classical.em (FX (g.map BC.v)) with h|h
 ·have hb:Bt 1000000 (EV (g.map BC.v) (pw.map AM.v)):=by
   have:=X4 hl hf (p:=pw.map AM.v) (k:=64) (by rw[List.length_map];omega) (aU hp.2) g.length
   rw[zT (by rw[List.length_map];omega)]at this;exact this.le (by omega)
  exact ⟨GU (EV (g.map BC.v) (pw.map AM.v)),0,a1 h,b1 h,X6 N.toe7 (FL hb (by omega)).2⟩
 ·exact ⟨⟨false,[],[]⟩,2,a2 h,b2 h,X6 N.toe7 ⟨QE _,QE _⟩⟩
theorem Sr (q:Bool) (g:List BC) (hl:g.length<=12) (hf : ∀ p∈g,p.Fit 64) (z:Int) (hz:FQ z) (nu:z<=5\/51<z) :
  ∃ (p:List Rat) (x:AM) (e:Int),Ev L 266 [.sl q (g.map EC),.int .i64 z] (.e6 [.sl false (p.map eQ),.agg (eW x),.int .i64 e])/\Ev L 415 [.sl q (g.map EC),.int .i64 z] (.e6 [.sl false (p.map eQ),.agg (eW x),.int .i64 e])/\(∀ q1 q2,Ev L 172 [.sl q1 (p.map eQ),.sl q2 (p.map eQ)] (.bool true))/\Ev L 158 [.agg (eW x),.agg (eW x)] (.bool true):=by
 obtain ⟨a1,a2,a3⟩:=nR N.toj8 q g 64 hl hf z hz;obtain ⟨b1,b2,b3⟩:=Zv N.toq8 q g 64 hl hf z hz;have hE:=λ q1 q2=>X9 N.tov5 q1 q2 [] 3 (λ x hx=>by cases hx) (by omega) (by simp)
 have hS:=X6 N.toe7 (w:=⟨false,[],[]⟩) ⟨QE _,QE _⟩;rcases Classical.em (FX (g.map BC.v)) with h|h
 ·by_cases Af:z<0\/51<z
  ·exact ⟨[],⟨false,[],[]⟩,12,a2 h Af,b2 h Af,hE,hS⟩
  ·by_cases g9:(g.length:Int)<z+1
   ·exact ⟨[],⟨false,[],[]⟩,11,a3 h (by omega) g9,b3 h (by omega) g9,hE,hS⟩
   ·obtain ⟨d,rfl⟩ : ∃ d:Nat,z=d:=⟨z.toNat,by omega⟩
    have xj:1<=g.length:=by have:=h.1;rwa [List.length_map]at this
    have hb : ∀ p∈g.map BC.v,Bt 64 p.x/\Bt 64 p.y/\Bt 64 p.w:=λ p hp=>by
     obtain ⟨r,hr,rfl⟩:=List.mem_map.1 hp;obtain ⟨f1,f2,f3⟩:=hf r hr;exact ⟨f1.1,f2.1,f3.1⟩
    have bx:Bs 64 ((g.map BC.v).map (·.x)):=λ z hz=>by obtain ⟨p,hp,rfl⟩:=List.mem_map.1 hz;exact (hb p hp).1
    have qg:Bs 64 ((g.map BC.v).map (·.y)):=λ z hz=>by obtain ⟨p,hp,rfl⟩:=List.mem_map.1 hz;exact (hb p hp).2.1
    have bw:Bs 64 ((g.map BC.v).map (·.w)):=λ z hz=>by obtain ⟨p,hp,rfl⟩:=List.mem_map.1 hz;exact (hb p hp).2.2
    obtain ⟨x1,x2,x3,_⟩:=TL (by rw[List.length_map,List.length_map];exact hl) bx;obtain ⟨y1,y2,_,_⟩:=TL (by rw[List.length_map,List.length_map];exact hl) qg
    obtain ⟨w1,_,w3,_⟩:=TL (by rw[List.length_map,List.length_map];exact hl) bw;obtain ⟨c,c1,c2,c3,c4⟩:=nQ N.toj8 q g _ rfl d 64 768 832 832 832 9200 ⟨xj,hl⟩ hf (by omega) h x1 y1 w1 (by omega) x2 y2 x3 w3 (Agt (by rw[List.length_map];exact hl) h.ok hb) (by omega) (by omega) (by omega) (by omega) (by omega) (by omega);have c5:=Zw N.toq8 q g _ rfl d 64 ⟨xj,hl⟩ hf (by omega) h (by omega) (by omega) c c1 c2 (λ x hx=>(c3 x hx).le (by omega));have tl:(CP c).length<=12:=by rw[R4];have:=OY c c.length;omega
    have he:Bt 1000000000 (EV (g.map BC.v) (CP c)):=by
     have:=X4 hl hf (p:=CP c) (k:=2000000) tl (λ x hx=>(c3.trim x hx).le (by omega)) g.length
     rw[zT (by rw[List.length_map];omega)]at this;exact this.le (by omega)
    exact ⟨CP c,GU (EV (g.map BC.v) (CP c)),0,c4,c5,λ q1 q2=>X9 N.tov5 q1 q2 (CP c) 2000000 (λ x hx=>(c3.trim x hx).le (by omega)) (by omega) (by omega),X6 N.toe7 (FL he (by omega)).2⟩
 ·exact ⟨[],⟨false,[],[]⟩,2,a1 h,b1 h,hE,hS⟩
theorem Ads (l:List BC) (p:List AM) (z:Int) (m:List Int) (ll:l.length<9223372036854775808) (vl : ∀ r∈l,r.Raw) (lp:p.length<9223372036854775808) (vp : ∀ w∈p,w.Raw) (hz:FQ z) (lm:m.length<9223372036854775808) (vm : ∀ v∈m,FQ v) :
  Ev L 417 [.sl false (l.map EC),.sl false (p.map eW),.int .i64 z,.sl false (m.map GD)] (.bool true):=by
 have hA:=Xd N.toib;have Dc:=Zd N false l ll vl;have Ba:=nT N.toeb false p lp vp;cases hl:TM l
 ·rw[hl]at Dc
  refine Ev.x N.HU rfl rfl ?_;(repeat' ((first|apply AE|refine AD (Dc) ?_|refine AD (hA) ?_)<;>conv=>whnf))
  exact DM rfl
 rw[hl]at Dc;cases hp:PG p
 ·rw[hp]at Ba
  refine Ev.x N.HU rfl rfl ?_;(repeat' ((first|apply AE|refine AD (Dc) ?_|refine AD (Ba) ?_|refine AD (hA) ?_)<;>conv=>whnf))
  exact DM rfl
 rw[hp]at Ba;obtain ⟨l10,fl⟩:=Ag2 vl hl;have fp:=uV vp hp;obtain ⟨g,hg,hG⟩:=Adt N.todw false m lm vm;have xj:=hg.len;have fg : ∀ r∈g.map L6,r.Fit 64:=λ r hr=>by
  obtain ⟨r,z7,rfl⟩:=List.mem_map.1 hr;exact ⟨FL ((hg.bx z7).le (by omega)) (by omega),FL ((Bt.ja (m:=10) (by omega) (by decide) (hg.wy r z7)).le (by omega)) (by omega),FL ((hg.bw z7).le (by omega)) (by omega)⟩
 rw[<-cC]at hG;have lg:(g.map L6).length<=12:=by rw[List.length_map];omega
 generalize g.map L6=G at *;have Om:=X5 N.ton9 z 6 hz (by omega);obtain ⟨a,ha,ue⟩ : ∃ a,z%6=a/\(0<=a/\a<=5):=⟨_,rfl,by omega⟩;rw[ha]at Om;have Oc : ∀ j,j<3 -> ∃ d:Int,[[AV.int .i64 a],[AV.int .i64 (-1)],[AV.int .i64 52]][j]? = some [AV.int .i64 d]/\FQ d/\(d<=5\/51<d):=λ j hj=>by
  rcases (show j=0\/j=1\/j=2 by omega) with rfl|rfl|rfl
  ·exact ⟨a,rfl,⟨by omega,by omega⟩,by omega⟩
  ·exact ⟨-1,rfl,⟨by omega,by omega⟩,by omega⟩
  ·exact ⟨52,rfl,⟨by omega,by omega⟩,by omega⟩
 have Og : ∀ i,i<2 -> ∃ U:List BC,[[AV.sl false (l.map EC)],[AV.sl false (G.map EC)]][i]? = some [AV.sl false (U.map EC)]/\U.length<=12 /\ ∀ r∈U,r.Fit 64:=λ i hi=>by
  rcases (show i=0\/i=1 by omega) with rfl|rfl
  ·exact ⟨l,rfl,by omega,fl⟩
  ·exact ⟨G,rfl,lg,fg⟩
 refine Ev.x N.HU rfl rfl ?_;(repeat' ((first|apply AE|refine AD (Dc) ?_|refine AD (Ba) ?_|refine AD (hG) ?_)<;>conv=>whnf))
 clear Dc Ba hG vl vp vm fl fg hg;obtain ⟨RG,Oq⟩ : ∃ R,R=[[AV.sl false (l.map EC)],[AV.sl false (G.map EC)]]:=⟨_,rfl⟩;obtain ⟨RD,Oo⟩ : ∃ R,R=[[AV.int .i64 a],[AV.int .i64 (-1)],[AV.int .i64 52]]:=⟨_,rfl⟩;rw[<-Oq]at Og ⊢;rw[<-Oo]at Oc;clear Oq;refine C5 (λ i=>2-i) (λ(i:Nat)=>i<=2) (λ i=>[(37,.int .i64 i)]) (λ_=>[]) 0 (by omega) ?_;intro i i1 ih;by_cases hi:i<2
 ·obtain ⟨U,hU,qk,Ke⟩:=Og i hi
  obtain ⟨b,v1,v2⟩:=Su N false U qk Ke;obtain ⟨x1,e1,p1,p2,p3⟩:=Ss N false false U qk Ke p fp;(repeat' ((first|(apply AG<;>intro hc<;>try omega)|(apply AY;omega)|apply AE)<;>conv=>whnf))
  refine jM (by rw[Nat.zero_add,Int.toNat_natCast];exact hU) rfl ?_;(conv=>whnf)
  cases b;all_goals
   (repeat' ((first|(apply AG<;>intro hc<;>try omega)|refine AD (p1) ?_|refine AD (p2) ?_|refine AD (p3) ?_|refine AD (v1) ?_|refine AD (v2) ?_|refine AD (Om) ?_)<;>conv=>whnf))
   rw[<-Oo];refine C5 (λ j=>3-j) (λ(j:Nat)=>j<=3) (λ j=>[(73,.int .i64 j)]) (λ_=>[]) 0 (by omega) ?_;intro j j1 jh;by_cases hj:j<3
   ·obtain ⟨d,hd,jv,jx⟩:=Oc j hj
    obtain ⟨q,y,f1,d1,d2,d3,d4⟩:=Sr N false U qk Ke d jv jx;(repeat' ((first|(apply AG<;>intro hc<;>try omega)|(apply AY;omega)|apply AE)<;>conv=>whnf))
    refine jM (by rw[Nat.zero_add,Int.toNat_natCast];exact hd) rfl ?_;(conv=>whnf)
    (repeat' ((first|(apply AG<;>intro hc<;>try omega)|(apply AZ;omega)|refine AD (d1) ?_|refine AD (d2) ?_|refine AD (d3 _ _) ?_|refine AD (d4) ?_)<;>conv=>whnf))
    exact BM [] (jh (j+1) (by omega) (by omega))
   ·have ej:j=3:=by omega
    clear jh;subst ej;(repeat' ((first|(apply AG<;>intro hc<;>try omega)|(apply AZ;omega)|apply AE)<;>conv=>whnf))
    exact BM [] (ih (i+1) (by omega) (by omega))
 ·have ei:i=2:=by omega
  clear ih;subst ei;(repeat' ((first|(apply AG<;>intro hc<;>try omega)|apply AE|refine AD (hA) ?_)<;>conv=>whnf))
  exact DM rfl
end
end Go.b8

namespace Go.b8
abbrev wE:Ty := .cons V5 (.cons V5 (.cons V5 .nil))
theorem AeJ {cs:List AV} (h:FK false wE cs) : ∃ p:BC,cs=EC p/\p.Raw:=by
 obtain ⟨_,_,rfl,hx,_,_,rfl,hy,_,_,rfl,hw,rfl⟩:=h;obtain ⟨x,rfl,rx⟩:=YG hx;obtain ⟨y,rfl,ry⟩:=YG hy;obtain ⟨w,rfl,Rn⟩:=YG hw;exact ⟨⟨x,y,w⟩,by rw[List.append_nil];rfl,rx,ry,Rn⟩
theorem AeK {cs:List AV} (h:FK false (.sl wE) cs) : ∃ l:List BC,cs=[.sl false (l.map EC)]/\l.length<9223372036854775808 /\ ∀ p∈l,p.Raw:=U8 (λ_=>AeJ) h
end Go.b8
