/-
  Least squares on a grid of raw numbers: validity, error, scales (layer 14).
-/
import Derived.Test.YtmalpgkkffcbfaaGreatB11
import Derived.Test.YtmalpgkkffcbfaaGreatB2
import Derived.Test.YtmalpgkkffcbfaaGreatB8
import Derived.Test.YtmalpgkkffcbfaaGreatB10
set_option linter.unusedSimpArgs false
set_option linter.unusedVariables false
set_option linter.unnecessarySimpa false
namespace Go.b8
open F
attribute [local irreducible] AA AF AQ AC CI AW A5 A9 B4 B3 CE DE BX A3 BW CD AB A4 AJ pw BV BN CS CR C1 CY CT BL DD
set_option maxHeartbeats 16000000
variable {L:Lib}
structure BC where
 x:AM
 y:AM
 w:AM
def EC (p:BC):List AV:=eW p.x++(eW p.y++eW p.w)
def BC.v (p:BC):Pt:=⟨p.x.v,p.y.v,p.w.v⟩
def BC.Fit (k:Nat) (p:BC):Prop:=p.x.Fit k/\p.y.Fit k/\p.w.Fit k
def L6 (p:Pt):BC:=⟨GU p.x,GU p.y,GU p.w⟩
theorem Agc (p:Pt):(L6 p).v=p:=by
 simp only[L6,BC.v,KB]
theorem cC (g:List Pt):(g.map L6).map EC=g.map eP:=by
 rw[List.map_map];rfl
theorem wY (g:List Pt):(g.map L6).map BC.v=g:=by
 rw[List.map_map];exact (List.map_congr_left λ x _=>Agc x).trans (List.map_id' g)
def OQ (g:List Pt) (j:Nat):Prop := ∀ p,g[j]? = some p->0<p.w /\ ∀ p0,j≠0->g[j-1]? = some p0->p0.x<p.x
def FX (g:List Pt):Prop:=1<=g.length /\ ∀ j,OQ g j
theorem uS {x:Rat}:0<n6 x.num↔0<x:=by
 constructor
 ·intro h
  rcases ZQ x.num with ⟨e,_⟩|⟨e,_⟩|⟨_,g⟩
  ·omega
  ·omega
  ·have h1:0<=x:=Rat.num_nonneg.1 (by omega)
   have h2:x≠0:=λ e=>by rw[e]at g;exact absurd g (by decide)
   grind
 ·exact uP
theorem uQ {x y:Rat}:n6 (x-y).num<0↔x<y:=by
 constructor
 ·intro h
  rcases ZQ (x-y).num with ⟨_,g⟩|⟨e,_⟩|⟨e,_⟩
  ·have h1 : ¬ 0<=x-y:=λ h=>by have:=Rat.num_nonneg.2 h;omega
   grind
  ·omega
  ·omega
 ·exact uO
section program
theorem Adc (N:z8 L) {w u:AM} {k l:Nat} (h:w.Sz k) (g:u.Sz l) (hk:k<=68719476736) (hl:l<=68719476736):Ev L 198 [.agg (eW w),.agg (eW u)] (.int .i64 (n6 (w.v-u.v).num)) :=
 oS N 68719476736 (by omega) w.n u.n w.m w.d u.m u.d (h.1.le hk) (h.2.le hk) (g.1.le hl) (g.2.le hl)
theorem Zh (N:w9 L) {w:AM} {x:Rat} {k l:Nat} (hx:Bt l x) (h:w.Sz k) (hl:l<2199023255552) (hk:k<=68719476736):Ev L 150 [.agg (eQ x),.agg (eW w)] (.agg (eQ (x-w.v))):=by
 have hF:=nV N w.n w.m w.d;have hA:=λ q3 q4=>cW N.toa4 68719476736 (by omega) (decide (x.num<0)) (!w.n) false false q3 q4 _ _ w.m w.d (hx.fi hl).1 (hx.fi hl).2 (h.1.le hk) (h.2.le hk)
 rw[tS,EG,<-Rat.sub_eq_add_neg,show qv w.n w.m w.d=w.v from rfl]at hA;refine Ev.x N.JH rfl rfl ?_;have m5:=DJ (x-w.v);generalize x-w.v=d at *;(repeat' ((first|apply jJ|apply AE|refine AD (hF) ?_|refine AD (hA _ _) ?_)<;>conv=>whnf))
 exact AX rfl m5
theorem PY (N:j8 L) (q:Bool) (g:List BC) (B:Nat) (hl:g.length<=12) (hf : ∀ p∈g,p.Fit B) (b:Bool) (hb:b=true↔FX (g.map BC.v)):Ev L 261 [.sl q (g.map EC)] (.bool b):=by
 have x8 : ∀ (i:Nat) (p:BC),g[i]? = some p->(g.map BC.v)[i]? = some p.v:=λ i p h=>by rw[List.getElem?_map,h];rfl
 have pf : ∀ j,¬ OQ (g.map BC.v) j->b=false:=λ j h=>by
  cases j7:b
  ·rfl
  ·exact absurd ((hb.1 j7).2 j) h
 refine Ev.x N.I4 rfl rfl ?_;by_cases h1:1<=g.length
 ·(repeat' ((first|(apply AG<;>intro hc<;>try omega)|apply AU|apply AE)<;>conv=>whnf))
  refine C5 (λ i=>g.length-i) (λ(i:Nat)=>i<=g.length /\ ∀ j,j<i->OQ (g.map BC.v) j) (λ i=>[(15,.int .i64 i)]) (λ_=>[]) 0 ⟨by omega,λ j h=>absurd h (by omega)⟩ ?_;intro i ⟨p1,p2⟩ ih;by_cases hi:i<g.length
  ·obtain ⟨p,hp⟩ : ∃ p,g[i]? = some p:=⟨_,zE hi⟩
   have wj:g[(i:Int).toNat]? = some p:=hp;obtain ⟨b1,b2,b3⟩:=hf p (zM hp);have hS:=cY N.toa4 b3.2 (by omega);have hs:=uS (x:=p.w.v);have kg:=x8 i p hp;by_cases h0:i=0
   ·by_cases z9:0<p.w.v
    ·have bp:=hs.2 z9
     have g6:OQ (g.map BC.v) i:=λ p' h=>by
      obtain rfl:=Option.some.inj (kg.symm.trans h);exact ⟨z9,λ_ h=>absurd h0 h⟩
     generalize n6 p.w.v.num=s at *;(repeat' ((first|(apply AG<;>intro hc<;>try omega)|(apply AZ;omega)|(refine BA (by assumption) ?_ rfl ?_;omega)|apply AE|refine AD (hS) ?_)<;>conv=>whnf))
     exact BM [] (ih (i+1) (by omega) ⟨by omega,λ j h=>by
      rcases Nat.lt_or_ge j i with h|h
      ·exact p2 j h
      ·rw[show j=i by omega];exact g6⟩)
    ·have bp : ¬ 0<n6 p.w.v.num:=λ h=>z9 (hs.1 h)
     obtain rfl:=pf i λ h=>z9 (h p.v kg).1
     generalize n6 p.w.v.num=s at *;clear ih;(repeat' ((first|(apply AG<;>intro hc<;>try omega)|(refine BA (by assumption) ?_ rfl ?_;omega)|apply AE|refine AD (hS) ?_)<;>conv=>whnf))
     exact DM rfl
   ·obtain ⟨p0,cq⟩ : ∃ p,g[i-1]? = some p:=⟨_,zE (by omega)⟩
    have Ch:g[((i:Int)-1).toNat]? = some p0:=by rw[show ((i:Int)-1).toNat=i-1 by omega];exact cq
    have uy:=x8 _ p0 cq;have hC:=Adc N.toz8 (hf p0 (zM cq)).1.2 b1.2 (by omega) (by omega);have hc:=uQ (x:=p0.x.v) (y:=p.x.v);by_cases z9:0<p.w.v
    ·have bp:=hs.2 z9
     by_cases g9:p0.x.v<p.x.v
     ·have bh:=hc.2 g9
      have g6:OQ (g.map BC.v) i:=λ p' h=>by
       obtain rfl:=Option.some.inj (kg.symm.trans h);refine ⟨z9,λ p0' _ h2 => ?_⟩;obtain rfl:=Option.some.inj (uy.symm.trans h2);exact g9
      generalize n6 p.w.v.num=s at *;generalize n6 (p0.x.v-p.x.v).num=c at *;(repeat' ((first|(apply AG<;>intro hc<;>try omega)|(apply AZ;omega)|(apply B1;omega)|(refine BA (by assumption) ?_ rfl ?_;omega)|apply AE|refine AD (hS) ?_|refine AD (hC) ?_)<;>conv=>whnf))
      exact BM [] (ih (i+1) (by omega) ⟨by omega,λ j h=>by
       rcases Nat.lt_or_ge j i with h|h
       ·exact p2 j h
       ·rw[show j=i by omega];exact g6⟩)
     ·have bh : ¬ n6 (p0.x.v-p.x.v).num<0:=λ h=>g9 (hc.1 h)
      obtain rfl:=pf i λ h=>g9 ((h p.v kg).2 p0.v h0 uy)
      generalize n6 p.w.v.num=s at *;generalize n6 (p0.x.v-p.x.v).num=c at *;clear ih;(repeat' ((first|(apply AG<;>intro hc<;>try omega)|(apply B1;omega)|(refine BA (by assumption) ?_ rfl ?_;omega)|apply AE|refine AD (hS) ?_|refine AD (hC) ?_)<;>conv=>whnf))
      exact DM rfl
    ·have bp : ¬ 0<n6 p.w.v.num:=λ h=>z9 (hs.1 h)
     obtain rfl:=pf i λ h=>z9 (h p.v kg).1
     generalize n6 p.w.v.num=s at *;clear ih;(repeat' ((first|(apply AG<;>intro hc<;>try omega)|(refine BA (by assumption) ?_ rfl ?_;omega)|apply AE|refine AD (hS) ?_)<;>conv=>whnf))
     exact DM rfl
  ·obtain rfl:i=g.length:=by omega
   obtain rfl:=hb.2 ⟨by rw[List.length_map];exact h1,λ j p h=>p2 j (by have:=(zS h).1;rw[List.length_map]at this;exact this) p h⟩;clear ih p2;(repeat' ((first|(apply AG<;>intro hc<;>try omega)|apply AE)<;>conv=>whnf))
   exact DM rfl
 ·obtain rfl:b=false:=by
   cases j7:b
   ·rfl
   ·have:=(hb.1 j7).1
    rw[List.length_map]at this;omega
  (repeat' ((first|(apply AG<;>intro hc<;>try omega)|apply AU|apply AE)<;>conv=>whnf))
  exact DM rfl
theorem aU {k:Nat} {pw:List AM} (h : ∀ w∈pw,w.Fit k):Bs k (pw.map AM.v):=λ x hx=>by
 obtain ⟨w,hw,rfl⟩:=List.mem_map.1 hx;exact (h w hw).1
theorem X4 {B k:Nat} {g:List BC} {p:List Rat} (hl:g.length<=12) (hf : ∀ r∈g,r.Fit B) (ix:p.length<=12) (hb:Bs k p) (i:Nat):Bt (12*(24*(k+B+1)+3*B+3)) (EV ((g.map BC.v).take i) p):=by
 have w4 : ∀ x,Bt B x->Bt (12*(k+B+1)) (BF p x):=λ x hx=>(US hx hb).le (zR _ ix)
 refine (ZZ (k:=24*(k+B+1)+3*B+2) λ r hr => ?_).le (zR _ (by rw[List.length_take,List.length_map];omega));obtain ⟨r,z7,rfl⟩:=List.mem_map.1 (List.mem_of_mem_take hr);obtain ⟨b1,b2,b3⟩:=hf r z7;have hd:=(w4 r.x.v b1.1).aj b2.1;exact (b3.1.mul (hd.mul hd)).le (by omega)
theorem nW (N:j8 L) (q q2:Bool) (g:List BC) (pw:List AM) (B k:Nat) (hl:g.length<=12) (hf : ∀ p∈g,p.Fit B) (ix:pw.length<=12) (Ci : ∀ w∈pw,w.Fit k) (hB:B<=1000000) (hk:k<=10000000) :
  (FX (g.map BC.v)->Ev L 262 [.sl q (g.map EC),.sl q2 (pw.map eW)] (.e6 [.agg (eQ (EV (g.map BC.v) (pw.map AM.v))),.int .i64 0]))/\(¬ FX (g.map BC.v)->Ev L 262 [.sl q (g.map EC),.sl q2 (pw.map eW)] (.e6 [.agg (rQ false false false [] []),.int .i64 2])):=by
 refine ⟨λ v7 => ?_,λ v7 => ?_⟩;rotate_left
 ·have hV:=PY N q g B hl hf false (by simp [v7])
  refine Ev.x N.I3 rfl rfl ?_;(repeat' ((first|apply AE|refine AD (hV) ?_)<;>conv=>whnf))
  exact AX rfl (by simp [A2,B8,EZ])
 have hV:=PY N q g B hl hf true (by simp [v7]);have hO:=O2 N.toa4 0 (by omega);have hb:=aU Ci;have va:(pw.map AM.v).length<=12:=by rw[List.length_map];exact ix
 have jf:=X4 hl hf va hb;have Jq:=λ(r:BC) (hr:r∈g)=>Zt N.tow8 q2 pw r.x k B ix Ci (hf r hr).1 hk (by omega)
 have w4 : ∀ x,Bt B x->Bt (12*(k+B+1)) (BF (pw.map AM.v) x):=λ x hx=>(US hx hb).le (zR _ va)
 have x8 : ∀ (i:Nat) (p:BC),g[i]? = some p->(g.map BC.v)[i]? = some p.v:=λ i p h=>by rw[List.getElem?_map,h];rfl
 have xj:(g.map BC.v).length=g.length:=List.length_map ..;generalize pw.map AM.v=p at *;generalize g.map BC.v=gv at *;refine Ev.x N.I3 rfl rfl ?_;(repeat' ((first|apply AU|apply AE|refine AD (hV) ?_|refine AD (hO) ?_)<;>conv=>whnf))
 refine EI (λ i=>g.length-i) (λ(i:Nat)=>i<=g.length) (λ i=>[(17,.int .i64 i)]) (λ i=>[(6,6,.bx (eQ (EV (gv.take i) p)))]) [] [] 0 (by first|exact (by (conv=>whnf);exact ⟨rfl,rfl,rfl⟩)|(rw[List.take_zero];exact (by (conv=>whnf);exact ⟨rfl,rfl,rfl⟩))) (by omega) ?_;intro i p1 ih;by_cases hi:i<g.length
 ·obtain ⟨r,hr⟩ : ∃ p,g[i]? = some p:=⟨_,zE hi⟩
  have sf:g[(i:Int).toNat]? = some r:=hr;obtain ⟨b1,b2,b3⟩:=hf r (zM hr);have Jt:=Jq r (zM hr);have hS:=Zh N.tow9 (w4 r.x.v b1.1) b2.2 (by omega) (by omega);have hd:=(w4 r.x.v b1.1).aj b2.1;have hM:=G3 N.toa4 hd hd (by omega) (by omega);have y8:=cL N.toa4 b3.2 (hd.mul hd) (by omega) (by omega);have hA:=Q6 N.toa4 (jf i) (b3.1.mul (hd.mul hd)) (by omega) (by omega);have wi:EV (gv.take i) p+r.w.v*((BF p r.x.v-r.y.v)*(BF p r.x.v-r.y.v))=EV (gv.take (i+1)) p:=by
   rw[FU (x8 i r hr)];exact (QG r.v _ _).symm
  rw[wi]at hA;generalize BF p r.x.v=e at *;generalize e-r.y.v=d at *;generalize d*d=dd at *;generalize r.w.v*dd=wd at *;generalize EV (gv.take i) p=s0 at *;generalize mf:EV (gv.take (i+1)) p=s1 at hA;(repeat' ((first|(apply AG<;>intro hc<;>try omega)|(apply AZ;omega)|(refine BA (by assumption) ?_ rfl ?_;omega)|apply AE|refine AD (Jt) ?_|refine AD (hS) ?_|refine AD (hM) ?_|refine AD (y8) ?_|refine AD (hA) ?_)<;>conv=>whnf))
  subst mf;exact BM [] (ih (i+1) (by omega) (by omega))
 ·have ei:i=g.length:=by omega
  clear ih;rw[ei,zT (by omega)];(repeat' ((first|(apply AG<;>intro hc<;>try omega)|apply AE)<;>conv=>whnf))
  exact AX rfl (kW _)
theorem cK (N:j8 L) (q:Bool) (lw:List AM) (k K:Nat) (hf : ∀ w∈lw,w.Fit k) (hK : ∀ i,Bt K (BI ((lw.map AM.v).take i))) (hk:k<=10000000) (hK2:K<=10000000) (hl:lw.length<=1000):Ev L 263 [.sl q (lw.map eW)] (.e6 [.sl false (((lw.map AM.v).map (· * BI (lw.map AM.v))).map eQ),.agg (eQ (BI (lw.map AM.v)))]):=by
 have hI:=O2 N.toa4 1 (by omega);have x8 : ∀ (i:Nat) (w:AM),lw[i]? = some w->(lw.map AM.v)[i]? = some w.v:=λ i w h=>by rw[List.getElem?_map,h];rfl
 have rz:(lw.map AM.v).length=lw.length:=List.length_map ..;generalize lw.map AM.v=l at *;refine Ev.x N.K4 rfl rfl ?_;(repeat' ((first|apply AU|apply AE|refine AD (hI) ?_)<;>conv=>whnf))
 refine EI (λ i=>lw.length-i) (λ(i:Nat)=>i<=lw.length) (λ i=>[(14,.int .i64 i)]) (λ i=>[(4,4,.bx (eQ (BI (l.take i))))]) [] [] 0 (by first|exact (by (conv=>whnf);exact ⟨rfl,rfl,rfl⟩)|(rw[List.take_zero];exact (by (conv=>whnf);exact ⟨rfl,rfl,rfl⟩))) (by omega) ?_;intro i p1 ih;by_cases hi:i<lw.length
 ·obtain ⟨x,hx⟩ : ∃ p,lw[i]? = some p:=⟨_,zE hi⟩
  have mi:lw[(i:Int).toNat]? = some x:=hx;have bx:=hf x (zM hx);have hs:=hK i;have bg:=oD N.toa4 hs bx.2 (by omega) (by omega);have y8:=oB N.toa4 true hs (hs.mul bx.1).2 (by omega) (by omega);have wi:BI (l.take (i+1))=BI (l.take i)*(((BI (l.take i)*x.v).den:Nat):Rat):=by rw[HK (x8 i x hx),uL];rfl
  rw[<-wi]at y8;generalize BI (l.take i)=s0 at *;generalize mf:BI (l.take (i+1))=s1 at y8;generalize s0*x.v=sx at *;(repeat' ((first|(apply AG<;>intro hc<;>try omega)|(apply AZ;omega)|(refine BA (by assumption) ?_ rfl ?_;omega)|refine HM rfl ?_|apply AE|refine AD (bg) ?_|refine AD (y8) ?_)<;>conv=>whnf))
  subst mf;exact BM [] (ih (i+1) (by omega) (by omega))
 have ei:i=lw.length:=by omega
 clear ih;have Oi:=hK l.length;rw[List.take_length]at Oi;rw[ei,zT (by omega)];have bm:(l.map (· * BI l)).length=lw.length:=by rw[List.length_map];exact rz
 have bd : ∀ (i:Nat) (x:AM),lw[i]? = some x->(l.map (· * BI l))[i]? = some (x.v*BI l):=λ i x hx=>by rw[List.getElem?_map,x8 i x hx];rfl
 generalize BI l=S at *;(repeat' ((first|(apply AG<;>intro hc<;>try omega)|apply AU|apply AE)<;>conv=>whnf))
 refine EJ (enc:=eO) none lw.length rfl rfl (by omega) ?_;(conv=>whnf)
 (repeat' (apply AU<;>conv=>whnf))
 refine EI (λ i=>lw.length-i) (λ(i:Nat)=>i<=lw.length) (λ i=>[(34,.int .i64 i)]) (λ i=>[(31,31,.rw 3 ((C0 ((l.map (· * S)).take i) lw.length).map eO))]) [] [] 0 (by first|exact (by (conv=>whnf);exact ⟨rfl,rfl,rfl⟩)|(rw[List.take_zero,<-JZ];exact (by (conv=>whnf);exact ⟨rfl,rfl,rfl⟩))) (by omega) ?_;intro e e1 eh;have Dk:=HT (l:=(l.map (· * S)).take e) (m:=lw.length) (by rw[List.length_take];omega);by_cases Fo:e<lw.length
 ·obtain ⟨x,hx⟩ : ∃ x,lw[e]? = some x:=⟨_,zE Fo⟩
  have mi:lw[(e:Int).toNat]? = some x:=hx;have hM:=cL N.toa4 (hf x (zM hx)).2 Oi (by omega) (by omega);have g8:=IH (l:=(l.map (· * S)).take e) (m:=lw.length) (x:=x.v*S) (by rw[List.length_take];omega);rw[List.length_take,Nat.min_eq_left (by omega),<-HK (bd e x hx)]at g8;generalize C0 ((l.map (· * S)).take e) lw.length=F0 at *;generalize x.v*S=xS at *;(repeat' ((first|(apply AG<;>intro hc<;>try omega)|(apply AY;omega)|(refine BA (by assumption) ?_ rfl ?_;omega)|apply AE|refine AD (hM) ?_)<;>conv=>whnf))
  refine ET (enc:=eO) (some xS) rfl (λ e=>by cases e<;>rfl) (by omega) ?_;(conv=>whnf)
  rw[g8];(repeat' ((first|(apply AZ;omega)|fail)<;>conv=>whnf))
  exact BM [] (eh (e+1) (by omega) (by omega))
 have ee:e=lw.length:=by omega
 clear eh;rw[ee,zT (by omega),JY bm];generalize l.map (· * S)=LS at *;rw[<-bm];(repeat' ((first|(apply AG<;>intro hc<;>try omega)|(refine EE (λ_=>rfl) rfl ?_ ?_;(first|rfl|simp))|apply AE)<;>conv=>whnf))
 exact AX rfl (by
  simp only[A2,B8,and_true,true_and];exact ⟨IZ _,⟨B5 _,B5 _⟩⟩)
theorem Zl (N:j8 L) (q:Bool) (g:List BC) (B K:Nat) (hlen:1<=g.length/\g.length<=12) (hf : ∀ p∈g,p.Fit B) (hB:B<=1000000) (hK:K<=1000000) (Ok : ∀ i,Bt K (BI (((g.map BC.v).map (·.x)).take i))) (Ol : ∀ i,Bt K (BI (((g.map BC.v).map (·.y)).take i))) (Oj : ∀ i,Bt K (BI (((g.map BC.v).map (·.w)).take i))) :
  Ev L 264 [.sl q (g.map EC)] (.agg (eG ((E4 (g.map BC.v)).map (·.x)) ((E4 (g.map BC.v)).map (·.y)) ((E4 (g.map BC.v)).map (·.w)) (BI ((g.map BC.v).map (·.x))) (BI ((g.map BC.v).map (·.y))))):=by
 have ex:(E4 (g.map BC.v)).map (·.x)=((g.map BC.v).map (·.x)).map (· * BI ((g.map BC.v).map (·.x))):=by rw[E4,List.map_map,List.map_map (l:=g.map BC.v)];rfl
 have ey:(E4 (g.map BC.v)).map (·.y)=((g.map BC.v).map (·.y)).map (· * BI ((g.map BC.v).map (·.y))):=by rw[E4,List.map_map,List.map_map (l:=g.map BC.v)];rfl
 have ew:(E4 (g.map BC.v)).map (·.w)=((g.map BC.v).map (·.w)).map (· * BI ((g.map BC.v).map (·.w))):=by rw[E4,List.map_map,List.map_map (l:=g.map BC.v)];rfl
 rw[ex,ey,ew];have fx:(g.map BC.v).map (·.x)=(g.map (·.x)).map AM.v:=by rw[List.map_map,List.map_map];rfl
 have fy:(g.map BC.v).map (·.y)=(g.map (·.y)).map AM.v:=by rw[List.map_map,List.map_map];rfl
 have fw:(g.map BC.v).map (·.w)=(g.map (·.w)).map AM.v:=by rw[List.map_map,List.map_map];rfl
 rw[fx]at Ok ⊢;rw[fy]at Ol ⊢;rw[fw]at Oj ⊢;have lx:(g.map (·.x)).length=g.length:=List.length_map ..;have ly:(g.map (·.y)).length=g.length:=List.length_map ..;have lw:(g.map (·.w)).length=g.length:=List.length_map ..;have bx : ∀ z∈g.map (·.x),z.Fit B:=λ z hz=>by obtain ⟨p,hp,rfl⟩:=List.mem_map.1 hz;exact (hf p hp).1
 have qg : ∀ z∈g.map (·.y),z.Fit B:=λ z hz=>by obtain ⟨p,hp,rfl⟩:=List.mem_map.1 hz;exact (hf p hp).2.1
 have bw : ∀ z∈g.map (·.w),z.Fit B:=λ z hz=>by obtain ⟨p,hp,rfl⟩:=List.mem_map.1 hz;exact (hf p hp).2.2
 have hWx:=λ q=>cK N q (g.map (·.x)) B K bx Ok (by omega) (by omega) (by omega)
 have hWy:=λ q=>cK N q (g.map (·.y)) B K qg Ol (by omega) (by omega) (by omega)
 have hWw:=λ q=>cK N q (g.map (·.w)) B K bw Oj (by omega) (by omega) (by omega)
 have ax : ∀ (i:Nat) (p:BC),g[i]? = some p->(g.map (·.x))[i]? = some p.x:=λ i p h=>by rw[List.getElem?_map,h];rfl
 have ay : ∀ (i:Nat) (p:BC),g[i]? = some p->(g.map (·.y))[i]? = some p.y:=λ i p h=>by rw[List.getElem?_map,h];rfl
 have aw : ∀ (i:Nat) (p:BC),g[i]? = some p->(g.map (·.w))[i]? = some p.w:=λ i p h=>by rw[List.getElem?_map,h];rfl
 generalize g.map (·.x)=X at *;generalize g.map (·.y)=Y at *;generalize g.map (·.w)=W at *;generalize BI (X.map AM.v)=sx at *;generalize BI (Y.map AM.v)=sy at *;generalize BI (W.map AM.v)=sw at *;obtain ⟨p0,cq⟩ : ∃ p,g[0]? = some p:=⟨_,zE (by omega)⟩;have Ch:g[(0:Int).toNat]? = some p0:=cq;refine Ev.x N.K5 rfl rfl ?_;(repeat' ((first|apply AU|apply AE)<;>conv=>whnf))
 refine aB ?_;(repeat' ((first|(apply AG<;>intro hc<;>try omega)|(refine BA (by assumption) ?_ rfl ?_;omega)|apply E5|apply AE)<;>conv=>whnf))
 refine WI (enc:=eW) p0.x rfl rfl (by omega) ?_;(conv=>whnf)
 (repeat' (apply E5<;>conv=>whnf))
 refine WI (enc:=eW) p0.y rfl rfl (by omega) ?_;(conv=>whnf)
 (repeat' (apply E5<;>conv=>whnf))
 refine WI (enc:=eW) p0.w rfl rfl (by omega) ?_;(conv=>whnf)
 (repeat' ((first|(apply AZ;omega)|fail)<;>conv=>whnf))
 have x1:[p0.x]=X.take 1:=by rw[FU (ax 0 p0 cq)];rfl
 have y1:[p0.y]=Y.take 1:=by rw[FU (ay 0 p0 cq)];rfl
 have w1:[p0.w]=W.take 1:=by rw[FU (aw 0 p0 cq)];rfl
 rw[x1,y1,w1];refine C5 (λ i=>g.length-i) (λ(i:Nat)=>1<=i/\i<=g.length) (λ i=>[(8,.int .i64 i)]) (λ i=>[(3,3,.bx [.row 17 0 3 0 i,.row 24 0 3 0 i,.row 31 0 3 0 i,.bool false,.nil,.nil,.bool false,.nil,.nil]),(17,17,.rw 3 ((X.take i).map eW)),(24,24,.rw 3 ((Y.take i).map eW)),(31,31,.rw 3 ((W.take i).map eW))]) 1 ⟨by omega,by omega⟩ ?_;intro i ⟨p1,p2⟩ ih;have tx:(X.take i).length=i:=by rw[List.length_take];omega
 have ty:(Y.take i).length=i:=by rw[List.length_take];omega
 have tw:(W.take i).length=i:=by rw[List.length_take];omega
 by_cases hi:i<g.length
 ·obtain ⟨p,hp⟩ : ∃ p,g[i]? = some p:=⟨_,zE hi⟩
  have wj:g[(i:Int).toNat]? = some p:=hp;have sx1:=FU (ax i p hp);have sy1:=FU (ay i p hp);have sw1:=FU (aw i p hp);have tx1:(X.take (i+1)).length=i+1:=by rw[List.length_take];omega
  have ty1:(Y.take (i+1)).length=i+1:=by rw[List.length_take];omega
  have tw1:(W.take (i+1)).length=i+1:=by rw[List.length_take];omega
  generalize X.take i=X0 at *;generalize Y.take i=Y0 at *;generalize W.take i=W0 at *;(repeat' ((first|(apply AG<;>intro hc<;>try omega)|(refine BA (by assumption) ?_ rfl ?_;omega)|apply E5|apply AE)<;>conv=>whnf))
  refine FP (enc:=eW) p.x rfl tx.symm rfl (by omega) (by omega) ?_;rw[<-sx1,tx1];(conv=>whnf)
  (repeat' (apply E5<;>conv=>whnf))
  refine FP (enc:=eW) p.y rfl ty.symm rfl (by omega) (by omega) ?_;rw[<-sy1,ty1];(conv=>whnf)
  (repeat' (apply E5<;>conv=>whnf))
  refine FP (enc:=eW) p.w rfl tw.symm rfl (by omega) (by omega) ?_;rw[<-sw1,tw1];(conv=>whnf)
  (repeat' ((first|(apply AZ;omega)|fail)<;>conv=>whnf))
  exact BM [(17,1000017),(24,1000024),(31,1000031)] (ih (i+1) (by omega) ⟨by omega,by omega⟩)
 ·have ei:i=g.length:=by omega
  clear ih;rw[ei,zT (by omega),zT (by omega),zT (by omega)];(repeat' ((first|(apply AG<;>intro hc<;>try omega)|apply AE)<;>conv=>whnf))
  refine EE (enc:=eW) (λ_=>rfl) rfl lx.symm ?_;(conv=>whnf)
  (repeat' (refine AD (hWx _) ?_<;>conv=>whnf))
  refine EE (enc:=eW) (λ_=>rfl) rfl ly.symm ?_;(conv=>whnf)
  (repeat' (refine AD (hWy _) ?_<;>conv=>whnf))
  refine EE (enc:=eW) (λ_=>rfl) rfl lw.symm ?_;(conv=>whnf)
  (repeat' (refine AD (hWw _) ?_<;>conv=>whnf))
  exact AX rfl (by
   show A2 (.agg [_,_,_,_,_,_,_,_,_]);simp only[A2,B8,and_true,true_and];exact ⟨IZ _,IZ _,IZ _,B5 _,B5 _,B5 _,B5 _⟩)
end program
end Go.b8
namespace Go.b8
open F
attribute [local irreducible] AA AF AQ AC CI AW A5 A9 B4 B3 CE DE BX A3 BW CD AB A4 AJ pw BV BN CS CR C1 CY CT BL DD
variable {L:Lib}
set_option maxHeartbeats 16000000
set_option maxRecDepth 8000
theorem Vu (w:AM):B8 (eW w):=by
 simp only[eW,rQ,B8,A2,and_true,true_and];exact ⟨B5 _,B5 _⟩
theorem kY : ∀ l:List AM,EZ (l.map eW)
 | []=>trivial
 | w::l=>⟨Vu w,kY l⟩
def DY (a b:List (List AM)):List (List AM):=List.zipWith (· ++ ·) a b
theorem dW {a b:List (List AM)} {i:Nat} {r s:List AM} (hr:a[i]? = some r) (hs:b[i]? = some s):(DY a b)[i]? = some (r++s):=by
 rw[DY,List.getElem?_zipWith,hr,hs]
theorem iO : ∀ a b:List (List AM),vM (DY a b)=DW (vM a) (vM b)
 | [],_=>by simp [DY,DW,vM]
 | _::_,[]=>by simp [DY,DW,vM]
 | r::a,s::b=>by
  have:=iO a b
  simp only[DY,DW,vM,List.zipWith_cons_cons,List.map_cons,List.map_append]at this ⊢;rw[this]
theorem qM {a b:List (List AM)} {n:Nat} (h:a.length=n) (g:b.length=n):(DY a b).length=n:=by simp [DY,h,g]
theorem qL {a b:List (List AM)} {n w k:Nat} (im : ∀ r∈a,r.length=n) (zj : ∀ r∈b,r.length=w) (nb:DZ k a) (nf:DZ k b):(∀ r∈DY a b,r.length=n+w)/\DZ k (DY a b):=by
 have key : ∀ r∈DY a b,∃ x∈a,∃ y∈b,r=x++y:=λ r hr=>by
  obtain ⟨i,hi⟩:=List.getElem?_of_mem hr;have w5:=(zS hi).1;simp only[DY,List.length_zipWith]at w5;obtain ⟨x,hx⟩ : ∃ x,a[i]? = some x:=⟨_,zE (by omega)⟩;obtain ⟨y,hy⟩ : ∃ y,b[i]? = some y:=⟨_,zE (by omega)⟩;obtain rfl:=Option.some.inj ((dW hx hy).symm.trans hi);exact ⟨x,zM hx,y,zM hy,rfl⟩
 constructor
 ·intro r hr
  obtain ⟨x,hx,y,hy,rfl⟩:=key r hr;rw[List.length_append,im x hx,zj y hy]
 ·intro r hr z hz
  obtain ⟨x,hx,y,hy,rfl⟩:=key r hr;rcases List.mem_append.1 hz with hz|hz
  ·exact nb x hx z hz
  ·exact nf y hy z hz
def cE:Option (List AM)->List AV
 | none=>[.nil]
 | some r=>[.sl false (r.map eW)]
theorem Aee {n:Nat} {l:List (List AM)} (h:l.length=n):(fz none (l.map some) n).map cE=FE false l:=by
 rw[dH (by simpa using h),List.map_map];rfl
def nE (p:Bool × List AM):List AV:=[.sl p.1 (p.2.map eW)]
def GQ (P:List (Bool × List AM)) (i:Nat):List AM:=((P.take i).map Prod.snd).flatten
theorem pI {P:List (Bool × List AM)} {i:Nat} {p:Bool × List AM} (h:P[i]? = some p):GQ P (i+1)=GQ P i++p.2:=by
 simp only[GQ,List.take_add_one,h,Option.toList_some,List.map_append,List.map_cons,List.map_nil,List.flatten_append,List.flatten_cons,List.flatten_nil,List.append_nil]
theorem Wv (N:o4 L) (q:Bool) (P:List (Bool × List AM)) (n:Nat) (hn:P.length=n) (Gd:n<=100) (hB : ∀ i,(GQ P i).length<=2000) (h0:0<(GQ P n).length):Ev L 228 [.sl q (P.map nE)] (.sl false ((GQ P n).map eW)):=by
 refine Ev.x N.NT rfl rfl ?_;(repeat' ((first|apply AU|apply AE)<;>conv=>whnf))
 refine C5 (λ i=>n-i) (λ(i:Nat)=>i<=n) (λ i=>[(11,.int .i64 i),(3,.int .i64 (GQ P i).length)]) (λ_=>[]) 0 (by omega) ?_;intro i p1 ih;by_cases hi:i<n
 ·obtain ⟨p,hp⟩ : ∃ p,P[i]? = some p:=⟨_,zE (by omega)⟩
  have wj:P[(i:Int).toNat]? = some p:=hp;have hs:=pI hp;have hb:=hB i;have uf:=hB (i+1);have hl:(GQ P (i+1)).length=(GQ P i).length+p.2.length:=by rw[hs,List.length_append]
  (repeat' ((first|(apply AG<;>intro hc<;>try omega)|(apply AZ;omega)|apply AU|(refine BA (by assumption) ?_ rfl ?_;omega)|apply AE)<;>conv=>whnf))
  rw[show ((GQ P i).length:Int)+(p.2.length:Int)=((GQ P (i+1)).length:Nat) by rw[hl];omega];exact BM [] (ih (i+1) (by omega) (by omega))
 ·obtain rfl:i=n:=by omega
  clear ih;have hb:=hB i;(repeat' ((first|(apply AG<;>intro hc<;>try omega)|apply AE)<;>conv=>whnf))
  refine FW 1000 N.NU rfl rfl ?_;(repeat' ((first|(apply AG<;>intro hc<;>try omega)|(apply AY;omega)|(apply B1;omega)|apply AE)<;>conv=>whnf))
  refine AY ⟨by omega,by simp only[EK];omega,by omega⟩ ?_;(conv=>whnf)
  refine iY ⟨by omega,by omega⟩ ?_;(conv=>whnf)
  skip
  refine ⟨rfl,_,rfl,?_⟩;(conv=>whnf)
  (repeat' (apply AU<;>conv=>whnf))
  refine C5 (λ j=>i-j) (λ(j:Nat)=>j<=i) (λ j=>[(27,.int .i64 j),(6,.row 227022 0 3 0 (GQ P j).length)]) (λ j=>[(227022,227022,.rw 3 ((GQ P j).map eW))]) 0 (by omega) ?_;intro j p2 jh;by_cases hj:j<i
  ·obtain ⟨p,hp⟩ : ∃ p,P[j]? = some p:=⟨_,zE (by omega)⟩
   have wj:P[(j:Int).toNat]? = some p:=hp;have hs:=pI hp;have hb:=hB j;have uf:=hB (j+1);have hl:(GQ P (j+1)).length=(GQ P j).length+p.2.length:=by rw[hs,List.length_append]
   (repeat' ((first|(apply AG<;>intro hc<;>try omega)|(refine BA (by assumption) ?_ rfl ?_;omega)|apply AE)<;>conv=>whnf))
   refine WJ rfl (λ_=>rfl) (by omega) (by omega) ?_;rw[<-hs];(conv=>whnf)
   (repeat' ((first|(apply AZ;omega)|fail)<;>conv=>whnf))
   exact BM [(227022,33)] (jh (j+1) (by omega) (by omega))
  ·obtain rfl:j=i:=by omega
   clear jh;(repeat' ((first|(apply AG<;>intro hc<;>try omega)|(refine EE (λ_=>rfl) rfl ?_ ?_;(first|rfl|simp))|apply AE)<;>conv=>whnf))
   exact AX rfl (by simp only[A2,true_and];exact kY _)
theorem Ww (N:o4 L) (q q1 q2:Bool) (a b:List AM) (ha:a.length<=1000) (hb:b.length<=1000) (h0:0<a.length):Ev L 228 [.sl q [[.sl q1 (a.map eW)],[.sl q2 (b.map eW)]]] (.sl false ((a++b).map eW)):=by
 have:=Wv N q [(q1,a),(q2,b)] 2 rfl (by omega) (λ i=>by
  rcases i with _|_|_|i<;>simp [GQ]<;>omega) (by simp [GQ];omega)
 simpa [GQ,nE] using this
def I9 (y:Nat->List Rat) (n w:Nat):List (List Rat):=(List.range n).map λ i:Nat=>(List.range w).map λ c=>(y c).getD i 0
theorem vI {m0 m:List (List Rat)} {K n W c:Nat} {P:List Nat} {odd:Bool} {l:Rat} (hE:GN m0 K W n m P c odd l) (hP:P.length=n) (bm:m.length=n):SH (OU m) n:=by
 have hc:c=n:=by have:=hE.o6.le;have:=hE.cc;omega
 subst hc;exact hE.o6.Ns λ i hi=>by
  obtain ⟨q,hq⟩ : ∃ q,P[i]? = some q:=⟨_,zE (by omega)⟩;rw[hq,hE.o6.diag hP i q hq]
theorem Ahb {m0 m a b:List (List Rat)} {K n w c:Nat} {P:List Nat} {odd:Bool} {l:Rat} (hE:GN m0 K (n+w) n m P c odd l) (hs:UB m0 (DW a b)) (hl:a.length=b.length) (im : ∀ r∈a,r.length=n) (zj : ∀ r∈b,r.length=w) (hP:P.length=n) (bm:m.length=n) :
  ∀ c',c'<w -> ∀ (i:Nat) (r s:List Rat),a[i]? = some r->b[i]? = some s->A6 r ((D0 (n+c') l m 0).map (· / l))=s.getD c' 0:=by
 intro c' q6 i r s hr vd;have ht:=vI hE hP bm;have hlen:=hE.o6.lr;refine lN (λ X=>(hE.ml X).trans (hs.ml X)) hl im zj q6 (by rw[List.length_map,OV];exact bm) hlen (λ x hx => ?_) hr vd;have h1:=Ru (c:=n+c') (l:=l) (λ r hr=>by rw[hlen r hr];omega) bm ht x hx;have sv:((D0 (n+c') l m 0).map (· * l⁻¹)).length=n:=by rw[List.length_map,OV];exact bm
 rw[show ((D0 (n+c') l m 0).map (· / l))=(D0 (n+c') l m 0).map (· * l⁻¹) from List.map_congr_left λ z _=>Rat.div_def z l,KR,<-bW sv,List.take_take,Nat.min_self,bW sv,UR,KR,h1,Rat.mul_assoc,Rat.mul_inv_cancel _ hE.l0,Rat.mul_one]
theorem Ahe (N:o4 L) (q q1 q2 q3:Bool) (a0 b0:List (List AM)) (a:List (List AM)) (n WW k:Nat) {K:Nat} (lq:a.length=n) (im : ∀ r∈a,r.length=WW) (hn:1<=n/\n<=52) (hW:WW<=104) (nb:DZ k a) (kv : ∀ r∈vM a,∀ j,Bt K (BI (r.take j))) (Bx:k<=K) (Jn:K<=1000000000000) {kk:List It} {Q:Tm->Mem->Prop}
  (fc:AA L kk ([(5,.row 231019 0 3 0 n),(4,.row 231016 0 1 0 n)]++[(1000+43,.row 22 0 1 0 n),(1000+26,.bool false),(1000+25,.int .i64 n),(1000+24,.int .i64 n),(1000+7,.row 22 0 1 0 n),(1000+6,.int .i64 n),(1000+0,.sl q (FE q1 a0)),(1000+(0+1),.sl q2 (FE q3 b0))]) ([(231016,231016,.mx (BK 3 eQ (whole (vM a)))),(231019,231019,.rw 3 (((vM a).map BI).map eQ))]++[(22,22,.rw 1 (FE false a))]) Q) :
  AA L (.lp J1.l1 :: .c7 0::kk) ([(22,.int .i64 0),(21,.int .i64 n),(20,.row 22 0 1 0 n),(5,.row 231019 0 3 0 n),(4,.row 231016 0 1 0 n)]++[(1000+43,.row 22 0 1 0 n),(1000+26,.bool false),(1000+25,.int .i64 n),(1000+24,.int .i64 n),(1000+7,.row 22 0 1 0 n),(1000+6,.int .i64 n),(1000+0,.sl q (FE q1 a0)),(1000+(0+1),.sl q2 (FE q3 b0))]) ([(231016,231016,.mx (List.replicate n none)),(231019,231019,.rw 3 ((List.replicate n none).map eO))]++[(22,22,.rw 1 (FE false a))]) Q:=by
 have hI:=O2 N.toa4 1 (by omega);refine SA (l:=[_,_]) rfl ?_;refine EI (λ i=>n-i) (λ(i:Nat)=>i<=n) (λ i=>[(22,.int .i64 i)]) (λ i=>[(231016,231016,.mx (mz (whole (vM a)) n i)),(231019,231019,.rw 3 ((C0 (((vM a).map BI).take i) n).map eO))]) [] [] 0 (by first|exact (by (conv=>whnf);exact ⟨rfl,rfl,rfl⟩)|(rw[<-sI (whole (vM a)),List.take_zero,<-JZ];exact (by (conv=>whnf);exact ⟨rfl,rfl,rfl⟩))) (by omega) ?_;intro i p1 ih;have hzl:=sG (Q:=whole (vM a)) p1;by_cases hi:i<n
 ·obtain ⟨r,hr⟩ : ∃ r,a[i]? = some r:=⟨_,zE (by omega)⟩
  have sf:a[(i:Int).toNat]? = some r:=hr;have jn:=im r (zM hr);have si:=nb r (zM hr);obtain ⟨rv,Ds⟩ : ∃ rv,r.map AM.v=rv:=⟨_,rfl⟩;have My:(vM a)[i]? = some rv:=by rw[<-Ds,vM,List.getElem?_map,hr];rfl
  have Me:rv.length=WW:=by rw[<-Ds,List.length_map];exact jn
  have jo : ∀ (j:Nat) (x:AM),r[j]? = some x->rv[j]? = some x.v:=λ j x hx=>by rw[<-Ds,List.getElem?_map,hx];rfl
  have g8:=sH (Q:=whole (vM a)) (i:=i) (n:=n) (row:=rv.map (· * BI rv)) (by rw[whole,List.getElem?_map,My];rfl) hi;have Mj:((vM a).map BI)[i]? = some (BI rv):=by rw[List.getElem?_map,My];rfl
  generalize mz (whole (vM a)) n i=R0 at *;have jf : ∀ j,Bt K (BI (rv.take j)):=kv rv (zM My);have Gv:=jf WW;rw[zT (by omega)]at Gv;(repeat' ((first|(apply AG<;>intro hc<;>try omega)|(apply AY;omega)|apply AU|(refine E9 ?_ (λ_=>rfl) (λ v hv => ?_);omega)|apply AE|refine AD (hI) ?_)<;>conv=>whnf))
  try cases hr.symm.trans hv
  refine JS (λ j _=>WW-j) (λ(j:Nat) (s:Rat)=>j<=WW/\s=BI (rv.take j)) (λ j _=>[(30,.int .i64 j)]) (λ_ s=>[(231008,231008,.bx (eQ s))]) 0 ((1:Int):Rat) ⟨by omega,by rw[List.take_zero];rfl⟩ ?_;intro j s ⟨p2,p3⟩ jh;by_cases hj:j<WW
  ·obtain ⟨x,hx⟩ : ∃ x,r[j]? = some x:=⟨_,zE (by omega)⟩
   have mi:r[(j:Int).toNat]? = some x:=hx;have Mk:Bt K s:=by rw[p3];exact jf j
   have sx:=si x (zM hx);have bx:=sx.1;have bg:=oD N.toa4 Mk sx.2 (by omega) (Nat.le_refl _);have y8:=oB N.toa4 true Mk (Mk.mul bx).2 (by omega) (by omega);have wi:BI (rv.take (j+1))=s*(((s*x.v).den:Nat):Rat):=by rw[HK (jo j x hx),uL,<-p3];rfl
   (repeat' ((first|(apply AG<;>intro hc<;>try omega)|(apply AZ;omega)|(refine BA (by assumption) ?_ rfl ?_;omega)|refine HM rfl ?_|apply AE|refine AD (bg) ?_|refine AD (y8) ?_)<;>conv=>whnf))
   exact BS [] (by (conv=>whnf);exact ⟨rfl,rfl,rfl⟩) (jh (j+1) _ (by omega) ⟨by omega,wi.symm⟩)
  have ej:j=WW:=by omega
  clear jh;rw[zT (by omega)]at p3;subst p3;(repeat' ((first|(apply AG<;>intro hc<;>try omega)|apply AU|apply AE)<;>conv=>whnf))
  rw[jn];refine EJ (enc:=eO) none WW rfl (by omega) (by omega) ?_;(conv=>whnf)
  (repeat' ((first|(apply AY;omega)|fail)<;>conv=>whnf))
  refine AY (by simp) ?_;refine W2 (i:=i) (by omega) (by omega) ?_;(conv=>whnf)
  (repeat' (apply AU<;>conv=>whnf))
  refine EI (λ j=>WW-j) (λ(j:Nat)=>j<=WW) (λ j=>[(53,.int .i64 j)]) (λ j=>[(231016,231016,.mx (R0.set i (some (3,(C0 ((rv.map (· * BI rv)).take j) WW).map eO))))]) [] [] 0 (by first|exact (by (conv=>whnf);exact ⟨rfl,rfl,rfl⟩)|(rw[List.take_zero,<-JZ];exact (by (conv=>whnf);exact ⟨rfl,rfl,rfl⟩))) (by omega) ?_;intro j r2 jh;have Gz:((rv.map (· * BI rv)).take j).length=j:=by rw[List.length_take,List.length_map];omega
  have Dk:=HT (l:=(rv.map (· * BI rv)).take j) (m:=WW) (by omega);by_cases hj:j<WW
  ·obtain ⟨x,hx⟩ : ∃ x,r[j]? = some x:=⟨_,zE (by omega)⟩
   have mi:r[(j:Int).toNat]? = some x:=hx;have sx:=si x (zM hx);have bg:=cL N.toa4 sx.2 Gv (Nat.le_refl _) (by omega);have hs:=IH (l:=(rv.map (· * BI rv)).take j) (m:=WW) (x:=x.v*BI rv) (by omega);rw[Gz,<-HK (show (rv.map (· * BI rv))[j]? = some (x.v*BI rv) by rw[List.getElem?_map,jo j x hx];rfl)]at hs;generalize C0 ((rv.map (· * BI rv)).take j) WW=W0 at *;(repeat' ((first|(apply AG<;>intro hc<;>try omega)|(apply AY;omega)|(refine BA (by assumption) ?_ rfl ?_;omega)|apply AE)<;>conv=>whnf))
   refine SF (by omega) (by omega) ?_;(conv=>whnf)
   (repeat' (refine AD (bg) ?_<;>conv=>whnf))
   refine AY (by rw[List.length_map];omega) ?_;(conv=>whnf)
   skip
   refine PN (by omega) (by omega) ?_;(conv=>whnf)
   refine ET (enc:=eO) (some (x.v*BI rv)) rfl (λ e=>by cases e<;>rfl) (by omega) ?_;(conv=>whnf)
   rw[hs];refine WY (by omega) (by rw[List.length_map,List.length_map,<-hs,List.length_set]) ?_;(conv=>whnf)
   (repeat' ((first|(apply AZ;omega)|fail)<;>conv=>whnf))
   exact BM [] (jh (j+1) (by omega) (by omega))
  have ej:j=WW:=by omega
  clear jh;rw[zT (by rw[List.length_map];omega),JY (by rw[List.length_map];exact Me),g8];have om:(((vM a).map BI).take i).length=i:=by rw[List.length_take,List.length_map,vM,List.length_map];omega
  have hfi:=HT (l:=((vM a).map BI).take i) (m:=n) (by omega);have rm:=IH (l:=((vM a).map BI).take i) (m:=n) (x:=BI rv) (by omega);rw[om,<-HK Mj]at rm;generalize C0 (((vM a).map BI).take i) n=W1 at *;(repeat' ((first|(apply AG<;>intro hc<;>try omega)|(apply AY;omega)|apply AE)<;>conv=>whnf))
  refine ET (enc:=eO) (some (BI rv)) rfl (λ e=>by cases e<;>rfl) (by omega) ?_;(conv=>whnf)
  rw[rm];(repeat' ((first|(apply AZ;omega)|fail)<;>conv=>whnf))
  exact BM [] (ih (i+1) (by omega) (by omega))
 have ei:i=n:=by omega
 clear ih;rw[ei,sF (by simp [whole,vM,lq]),zT (by rw[List.length_map,vM,List.length_map];omega),JY (by rw[List.length_map,vM,List.length_map];exact lq)];(repeat' ((first|(apply AG<;>intro hc<;>try omega)|apply AE)<;>conv=>whnf))
 exact BS [] (by (conv=>whnf);exact ⟨rfl,rfl,rfl⟩) fc
theorem Ahd (N:o4 L) (q2 q3:Bool) (b0 jm:List (List AM)) {m0 m1:List (List Rat)} {n cw WW K0 c:Nat} {P:List Nat} {o:Bool} {l:Rat} {rp:List Rat} (sc:List Rat) (sd:m0.length=n) (hn:1<=n/\n<=52) (hW:cw<=WW) (Kf:WW<=104) (yv:1<=K0) (hB:6^n*K0<=1000000000000) (hP:P.length<n) (qo:c<cw) (hS:OS m0 K0 WW cw P c o l rp m1 (P.length+1)) {kk:List It} {Q:Tm->Mem->Prop}
  (fc : ∀ m2,OS m0 K0 WW cw P c o l rp m2 n->AA L kk ([(9,.bool o),(8,.int .i64 c),(7,.int .i64 (P.length:Nat)),(10,.ptr 233010 0 0 0),(5,.ptr 233005 0 0 0),(0,.row 231016 0 1 0 n),(0+1,.int .i64 cw)]++[(1000+49,.int .i64 n),(1000+48,.row 231016 0 1 0 n),(1000+9,.row 231016 0 1 0 n),(1000+6,.int .i64 n),(1000+(0+1),.sl q2 (FE q3 b0))]) ([(231016,231016,.mx (BK 3 eQ m2)),(233010,233010,.bx (eQ l)),(233005,233005,.bx [.bool false,.nil,.nil])]++[(22,22,.rw 1 (FE false jm)),(231019,231019,.rw 3 (sc.map eQ))]) Q) :
  AA L (.lp J0.l4 :: .c7 6::kk) ([(12,.int .i64 ((P.length+1:Nat):Int)),(9,.bool o),(8,.int .i64 c),(7,.int .i64 (P.length:Nat)),(10,.ptr 233010 0 0 0),(5,.ptr 233005 0 0 0),(0,.row 231016 0 1 0 n),(0+1,.int .i64 cw)]++[(1000+49,.int .i64 n),(1000+48,.row 231016 0 1 0 n),(1000+9,.row 231016 0 1 0 n),(1000+6,.int .i64 n),(1000+(0+1),.sl q2 (FE q3 b0))]) ([(231016,231016,.mx (BK 3 eQ m1)),(233010,233010,.bx (eQ l)),(233005,233005,.bx [.bool false,.nil,.nil])]++[(22,22,.rw 1 (FE false jm)),(231019,231019,.rw 3 (sc.map eQ))]) Q:=by
 refine SA (l:=[_,_]) rfl ?_;refine JS (λ_ i=>n-i) (λ(m:List (List Rat)) (i:Nat)=>OS m0 K0 WW cw P c o l rp m i/\P.length+1<=i/\i<=n) (λ_ i=>[(12,.int .i64 i)]) (λ m _=>[(231016,231016,.mx (BK 3 eQ m))]) m1 (P.length+1) ⟨hS,by omega,by omega⟩ ?_;clear hS;intro m2 i ⟨hS,j1,j2⟩ sh;have xo:=hS.len;rw[sd]at xo;by_cases hj:i<n
 ·obtain ⟨rq,jl⟩ : ∃ r,m2[i]? = some r:=⟨_,zE (by omega)⟩
  have po:=hS.ht;have Gu:=hS.o6.lr rq (zM jl);have de:=hS.o6.lr rp (zM po);(repeat' ((first|(apply AG<;>intro hc<;>try omega)|(apply AY;omega)|(refine FY ?_ (λ r hr => ?_);omega)|apply AE)<;>conv=>whnf))
  rename_i rA hrA;cases jl.symm.trans hrA;cases po.symm.trans hr;rw[show 0+((i:Nat):Int).toNat=i by omega,show 0+((P.length:Nat):Int).toNat=P.length by omega,show (List.map eQ rq).length=WW by rw[List.length_map];exact Gu,show (List.map eQ rp).length=WW by rw[List.length_map];exact de];have nm:rq[c]? = some (rq.getD c 0):=RB (by omega);refine FW 1000 N.LA rfl rfl ?_;have uz:rp[c]? = some (rp.getD c 0):=RB (by omega);have vh:=hS.step (by omega) jl;have m5:(comb (rp.getD c 0) (rq.getD c 0) l rq rp).length=WW:=by rw[bD (by omega)];exact Gu
  have hcg:=λ j=>bC (p:=rp.getD c 0) (f:=rq.getD c 0) (l:=l) (r:=rq) (t:=rp) (by omega) j
  have ij:=λ j (h:j<c)=>hS.o6.zr i rq (by omega) jl j h
  have nu:=λ j (h:j<c)=>hS.o6.zr P.length rp (Nat.le_refl _) po j h
  have Pf:=hS.hi i rq (Nat.le_refl i) jl;have Pc:=hS.bt;have jg:=hS.bl;have gk:=hS.l0;have Bg:=Pc.at uz;have Bh:=Pf.at nm;generalize kg:rp.getD c 0=pv at *;generalize hfv:rq.getD c 0=fv at *;generalize jd:comb pv fv l rq rp=cb at *;have Gc:cb.take c++rq.drop c=rq:=AfD (by omega) λ j hj=>⟨by rw[hcg,ij j hj,nu j hj,Rat.zero_mul,Rat.zero_mul,Rat.sub_eq_add_neg,Rat.neg_zero,Rat.add_zero,Rat.div_def,Rat.zero_mul],ij j hj⟩
  have Ay:=YV (z:=3) jl;have Ou:=YV (z:=3) po;have Jx:(BK 3 eQ m2).length=n:=by simp only[BK,List.length_map];omega
  have Db:(BK 3 eQ m2).set i (some (3,cb.map eQ))=BK 3 eQ (m2.set i cb):=by simp only[BK,List.map_set]
  generalize BK 3 eQ m2=R2 at *;have yz:R2.set i (some (3,rq.map eQ))=R2:=VV Ay;(repeat' ((first|(apply AY;omega)|apply AE)<;>conv=>whnf))
  refine WO Ou ?_;(conv=>whnf)
  (repeat' ((first|(apply AY;omega)|(refine E9 ?_ (λ_=>rfl) (λ v hv => ?_);omega))<;>conv=>whnf))
  cases uz.symm.trans hv;skip
  refine WO Ay ?_;(conv=>whnf)
  (repeat' ((first|(refine E9 ?_ (λ_=>rfl) (λ v hv => ?_);omega)|fail)<;>conv=>whnf))
  cases nm.symm.trans hv;skip
  have hp7:=Nat.le_trans (tO yv P.length) (ZD hB (show P.length+1<=n by omega));generalize 6^P.length*K0=BB at *;refine EI (λ j=>WW-j) (λ(j:Nat)=>c<=j/\j<=WW) (λ j=>[(10,.int .i64 j)]) (λ j=>[(231016,231016,.mx (R2.set i (some (3,(cb.take j++rq.drop j).map eQ))))]) [] [] c (by first|exact (by (conv=>whnf);exact ⟨rfl,rfl,rfl⟩)|(rw[Gc,yz];exact (by (conv=>whnf);exact ⟨rfl,rfl,rfl⟩))) ⟨by omega,by omega⟩ ?_;intro j ⟨k1,k2⟩ jh;have bm:(cb.take j++rq.drop j).length=WW:=by rw[List.length_append,List.length_take,List.length_drop];omega
  by_cases hjn:j<WW
  ·obtain ⟨x,hx⟩ : ∃ x,rq[j]? = some x:=⟨_,zE (by omega)⟩
   obtain ⟨y,hy⟩ : ∃ y,rp[j]? = some y:=⟨_,zE (by omega)⟩;have zm:cb[j]? = some ((x*pv-y*fv)/l):=by rw[<-jd];exact Wl hx hy
   have Fz:=AfB (a:=cb) (by omega) hx;have kb:=AfC (b:=rq) (by omega) zm;have bx:=Pf.at hx;have qg:=Pc.at hy
   have bg:=G3 N.toa4 bx Bg (by omega) (by omega);have y8:=G3 N.toa4 qg Bh (by omega) (by omega)
   have zh:=oY N.tow9 (bx.mul Bg) (qg.mul Bh) (by omega) (by omega);have hDi:=SV N.toa4 ((bx.mul Bg).aj (qg.mul Bh)) jg (by omega) (by omega) gk;have Jy:(R2.set i (some (3,(cb.take j++rq.drop j).map eQ)))[P.length]? = some (some (3,rp.map eQ)):=by rw[List.getElem?_set,if_neg (by omega)];exact Ou
   generalize cb.take j++rq.drop j=cm at *;(repeat' ((first|(apply AG<;>intro hc<;>try omega)|(apply AY;omega)|apply AE)<;>conv=>whnf))
   refine PN rfl (by omega) ?_;(conv=>whnf)
   (repeat' ((first|(refine E9 ?_ (λ_=>rfl) (λ v hv => ?_);omega)|fail)<;>conv=>whnf))
   cases Fz.symm.trans hv;(repeat' ((first|(apply AY;omega)|refine AD (bg) ?_)<;>conv=>whnf))
   refine WO Jy ?_;(conv=>whnf)
   (repeat' ((first|(refine E9 ?_ (λ_=>rfl) (λ v hv => ?_);omega)|fail)<;>conv=>whnf))
   cases hy.symm.trans hv;(repeat' ((first|refine AD (y8) ?_|refine AD (zh) ?_)<;>conv=>whnf))
   (repeat' ((first|(apply AY;omega)|refine AD (hDi) ?_)<;>conv=>whnf))
   refine PN rfl (by omega) ?_;(conv=>whnf)
   refine ET (enc:=eQ) ((x*pv-y*fv)/l) rfl (λ_=>rfl) (by omega) ?_;rw[kb];(conv=>whnf)
   refine WY rfl (by rw[List.length_map,List.length_map,<-kb,List.length_set]) ?_;(conv=>whnf)
   (repeat' ((first|(apply AZ;omega)|fail)<;>conv=>whnf))
   exact BM [] (jh (j+1) (by omega) ⟨by omega,by omega⟩)
  ·have ej:j=WW:=by omega
   clear jh;rw[zT (by omega),List.drop_of_length_le (by omega),List.append_nil,Db];(repeat' ((first|(apply AG<;>intro hc<;>try omega)|apply AE)<;>conv=>whnf))
   refine ⟨rfl,_,rfl,?_⟩;(conv=>whnf)
   (repeat' ((first|(apply AZ;omega)|fail)<;>conv=>whnf))
   exact BM [] (sh (m2.set i cb) (i+1) (by omega) ⟨vh,by omega,by omega⟩)
 ·have ei:i=n:=by omega
  clear sh;rw[ei]at hS;(repeat' ((first|(apply AG<;>intro hc<;>try omega)|apply AE)<;>conv=>whnf))
  exact BS [] (by (conv=>whnf);exact ⟨rfl,rfl,rfl⟩) (fc m2 hS)
def SG (a b:List (List Rat)) (n w S B0:Nat):Prop := ∀ (m:List (List Rat)) (l:Rat) (c:Nat),c<w->m.length=n->Ms S m->Bt S l->l≠0->NS n a->(∀ (i:Nat) (r s:List Rat),a[i]? = some r->b[i]? = some s->A6 r ((D0 (n+c) l m 0).map (· / l))=s.getD c 0) -> ∃ C:Nat->Nat,(∀ k,Bs (C k) (D0 (n+c) l (m.drop k) k))/\(∀ k,k<n->3*S+n*(S+C (k+1)+1)<=1000000000000)/\C 0<=1000000000000/\Bs B0 ((D0 (n+c) l m 0).map (· / l))
theorem kO (c:Nat) (l:Rat) : ∀ (k:Nat) (m:List (List Rat)) (i:Nat),D0 c l (m.drop k) (i+k)=(D0 c l m i).drop k
 | 0,m,i=>rfl
 | k+1,[],i=>rfl
 | k+1,r::m,i=>by
  rw[List.drop_succ_cons,D0,List.drop_succ_cons,<-kO c l k m (i+1),show i+1+k=i+(k+1) by omega]
theorem SG.Nq {a b:List (List Rat)} {n w S Q:Nat} (hQ:NS n a -> ∀ c,c<w -> ∀ X:List Rat,X.length=n->(∀ (i:Nat) (r s:List Rat),a[i]? = some r->b[i]? = some s->A6 r X=s.getD c 0)->Bs Q X) (hC:3*S+n*(2*S+Q+1)<=1000000000000) (hn:1<=n):SG a b n w S Q:=λ m l c hc hm kb hl gk cn hs=>by
 have hX:=hQ cn c hc _ (by rw[List.length_map,OV];exact hm) hs;have hb : ∀ k,Bs (S+Q) (D0 (n+c) l (m.drop k) k):=λ k x hx=>by
  have e:=kO (n+c) l k m 0;rw[Nat.zero_add]at e;rw[e]at hx;have h1:=hX _ (List.mem_map.2 ⟨x,List.mem_of_mem_drop hx,rfl⟩);have h2:=h1.mul hl;rw[Rat.div_mul_cancel gk]at h2;exact h2.le (by omega)
 have e2:n*(S+(S+Q)+1)<=n*(2*S+Q+1):=Nat.mul_le_mul_left n (by omega);have e3:S+Q<=n*(2*S+Q+1):=Nat.le_trans (by omega) (zR (2*S+Q+1) hn);exact ⟨λ_=>S+Q,hb,λ k _=>by show 3*S+n*(S+(S+Q)+1)<=_;omega,by show S+Q<=_;omega,hX⟩
theorem Ze (N:o4 L) (q q1 q2 q3:Bool) (aw bw:List (List AM)) (n w k K0:Nat) (da:aw.length=n) (cf : ∀ r∈aw,r.length=n) (fo:bw.length=n) (ku : ∀ r∈bw,r.length=w) (hn:1<=n/\n<=52) (hw:1<=w/\w<=52) (Bx:k<=K0) (yv:1<=K0) (uk:DZ k aw) (ma:DZ k bw)
  (kv : ∀ r∈DW (vM aw) (vM bw),∀ j,Bt K0 (BI (r.take j))) (gx:Ms K0 (whole (DW (vM aw) (vM bw))))
  (hB:6^n*K0<=1000000000000) {B0:Nat} (jf:SG (vM aw) (vM bw) n w (6^n*K0) B0) :
  ∃ v,Ev L 235 [.sl q (FE q1 aw),.sl q2 (FE q3 bw)] v/\((¬ NS n (vM aw)/\v = .e6 [.sl false [],.int .i64 11])\/(NS n (vM aw) /\ ∃ y:Nat->List Rat,v = .e6 [.sl false (eM (I9 y n w)),.int .i64 0] /\
   ∀ c,c<w->(y c).length=n/\Bs B0 (y c) /\ ∀ (i:Nat) (r s:List Rat),(vM aw)[i]? = some r->(vM bw)[i]? = some s->A6 r (y c)=s.getD c 0)):=by
 obtain ⟨a,jo⟩ : ∃ a,vM aw=a:=⟨_,rfl⟩;obtain ⟨b,ou⟩ : ∃ b,vM bw=b:=⟨_,rfl⟩;rw[jo,ou]at kv gx jf ⊢;have lq:a.length=n:=jo ▸ TT da;have im : ∀ r∈a,r.length=n:=jo ▸ WD cf;have nb:Ms k a:=jo ▸ uk.ms;have jg:b.length=n:=ou ▸ TT fo;have zj : ∀ r∈b,r.length=w:=ou ▸ WD ku;have nf:Ms k b:=ou ▸ ma.ms;have xn:=qM da fo;obtain ⟨Bw,Bv⟩:=qL cf ku uk ma;have Ip:vM (DY aw bw)=DW a b:=by rw[iO,jo,ou]
 have hI:=O2 N.toa4 1 (by omega);have db:(DW a b).length=n:=by simp [DW,lq,jg]
 have Pu : ∀ r∈DW a b,r.length=n+w:=λ r hr=>by
  obtain ⟨i,hi⟩:=List.getElem?_of_mem hr;have w5:=(zS hi).1;obtain ⟨x,hx⟩ : ∃ x,a[i]? = some x:=⟨_,zE (by omega)⟩;obtain ⟨y,hy⟩ : ∃ y,b[i]? = some y:=⟨_,zE (by omega)⟩;obtain rfl:=Option.some.inj ((U9 hx hy).symm.trans hi);rw[List.length_append,im x (zM hx),zj y (zM hy)]
 have hjb:Ms k (DW a b):=λ r hr=>by
  obtain ⟨i,hi⟩:=List.getElem?_of_mem hr;have w5:=(zS hi).1;obtain ⟨x,hx⟩ : ∃ x,a[i]? = some x:=⟨_,zE (by omega)⟩;obtain ⟨y,hy⟩ : ∃ y,b[i]? = some y:=⟨_,zE (by omega)⟩;obtain rfl:=Option.some.inj ((U9 hx hy).symm.trans hi);intro z hz;rcases List.mem_append.1 hz with hz|hz
  ·exact nb.at hx z hz
  ·exact nf.at hy z hz
 refine Ev.xE N.K9 rfl rfl ?_;(repeat' ((first|apply AU|apply AE)<;>conv=>whnf))
 unfold C1;refine ⟨⟨by omega,by omega,by simp only[EK];omega,by omega⟩,?_⟩;rw[Int.toNat_natCast,da];(conv=>whnf)
 skip
 refine xM 22 22 n rfl ?_;refine EI (λ i=>n-i) (λ(i:Nat)=>i<=n) (λ i=>[(25,.int .i64 i)]) (λ i=>[(22,22,.rw 1 ((fz none (((DY aw bw).take i).map some) n).map cE))]) [] [] 0 (by first|exact (by (conv=>whnf);exact ⟨rfl,rfl,rfl⟩)|(rw[List.take_zero,List.map_nil,show fz (none:Option (List AM)) [] n=List.replicate n none by simp [fz],List.map_replicate];exact (by (conv=>whnf);exact ⟨rfl,rfl,rfl⟩))) (by omega) ?_;intro i p1 ih;by_cases hi:i<n
 ·obtain ⟨r,u4⟩ : ∃ r,aw[i]? = some r:=⟨_,zE (by omega)⟩
  obtain ⟨s,bp⟩ : ∃ s,bw[i]? = some s:=⟨_,zE (by omega)⟩;have sf:aw[(i:Int).toNat]? = some r:=u4;have vd:bw[(i:Int).toNat]? = some s:=bp;have jn:=cf r (zM u4);have Ik:=ku s (zM bp);have hCc:=Ww N true q1 q3 r s (by omega) (by omega) (by omega);have om:(((DY aw bw).take i).map some).length=i:=by rw[List.length_map,List.length_take];omega
  have jy:=dI (z:=(none:Option (List AM))) (l:=((DY aw bw).take i).map some) (m:=n) (by omega);have rm:=dJ (z:=(none:Option (List AM))) (x:=some (r++s)) (l:=((DY aw bw).take i).map some) (m:=n) (by omega);have hta:(DY aw bw).take (i+1)=(DY aw bw).take i++[r++s]:=by rw[List.take_add_one,dW u4 bp];rfl
  rw[om,show ((DY aw bw).take i).map some++[some (r++s)]=((DY aw bw).take (i+1)).map some by rw[hta,List.map_append];rfl]at rm;generalize fz (none:Option (List AM)) (((DY aw bw).take i).map some) n=J at *;(repeat' ((first|(apply AG<;>intro hc<;>try omega)|(apply AY;omega)|(refine BA (by assumption) ?_ rfl ?_;omega)|refine PR rfl rfl ?_|apply AE|refine AD (hCc) ?_)<;>conv=>whnf))
  refine ET (enc:=cE) (some (r++s)) rfl (λ e=>by cases e<;>rfl) (by omega) ?_;(conv=>whnf)
  rw[rm];(repeat' ((first|(apply AZ;omega)|fail)<;>conv=>whnf))
  exact BM [] (ih (i+1) (by omega) (by omega))
 have ei:i=n:=by omega
 clear ih;rw[ei,zT (by omega),Aee xn];(repeat' ((first|(apply AG<;>intro hc<;>try omega)|apply AE)<;>conv=>whnf))
 have Jn:K0<=1000000000000:=by simpa using ZD hB (Nat.zero_le n)
 refine FW 1000 N.J1 rfl rfl ?_;(repeat' (apply AE<;>conv=>whnf))
 unfold C1;refine ⟨⟨by omega,by omega,by simp only[EK];omega,by omega⟩,?_⟩;rw[Int.toNat_natCast];(conv=>whnf)
 skip
 refine EJ (enc:=eO) none n rfl (by omega) (by omega) ?_;(conv=>whnf)
 skip
 refine BS [] (by (conv=>whnf);exact ⟨rfl,rfl,rfl⟩) (Ahe N q q1 q2 q3 aw bw (DY aw bw) n (n+w) k xn Bw hn (by omega) Bv (Ip.symm ▸ kv) Bx Jn ?_);rw[Ip];(repeat' (apply AE<;>conv=>whnf))
 refine ⟨rfl,_,rfl,?_⟩;(conv=>whnf)
 skip
 have Kf:n+w<=104:=by omega
 have hW:n<=n+w:=by omega
 have sd:(whole (DW a b)).length=n:=by simp only[whole,List.length_map];exact db
 have Cc:=AhL Pu;have Cb:=gx;have uv:=AhM (DW a b);have Li:a.length=b.length:=by omega
 clear hjb Pu nb nf Jn ei hi p1 i kv gx Bx;generalize whole (DW a b)=m0 at sd Cc Cb uv ⊢;refine FC 1000 N.J0 rfl rfl ?_;(repeat' ((first|apply AE|refine AD (hI) ?_)<;>conv=>whnf))
 refine xJ (λ_ P _ _ _=>n-P.length) (λ(m:List (List Rat)) (P:List Nat) (c:Nat) (odd:Bool) (l:Rat)=>GN m0 K0 (n+w) n m P c odd l) (λ_ P c odd _=>[(7,.int .i64 (P.length:Nat)),(8,.int .i64 c),(9,.bool odd)]) (λ m _ _ _ l=>[(231016,231016,.mx (BK 3 eQ m)),(233010,233010,.bx (eQ l))]) [] [] m0 [] 0 false ((1:Int):Rat) (by (conv=>whnf);exact ⟨rfl,rfl,rfl⟩) (GN.start Cc Cb) ?_;intro m P c odd l hE eh;have bm:=hE.len;have js:=hE.o6.pl;rw[sd]at bm;by_cases hP:P.length<n
 ·have hp6:=ZD hB (show P.length<=n by omega)
  (repeat' ((first|(apply AG<;>intro hc<;>try omega)|apply AE)<;>conv=>whnf))
  refine xL (l:=[_,_]) (λ(m1:List (List Rat)) (c:Nat) (o:Bool)=>GN m0 K0 (n+w) n m1 P c o l/\(c<n -> ∃ rp,m1[P.length]? = some rp/\rp.getD c 0≠0)) (λ_ c o=>[(8,.int .i64 c),(9,.bool o)]) (λ m1 _ _=>[(231016,231016,.mx (BK 3 eQ m1))]) [17] rfl ?_ ?_
  ·clear hE bm js
   intro m1 c Aof ⟨hE,kg⟩;have bm:=hE.len;have js:=hE.o6.pl;have u7:=hE.cc;rw[sd]at bm;by_cases qo:c<n
   ·obtain ⟨rp,cq,Qc⟩:=kg qo
    clear kg;have hS:=hE.swp qo cq Qc;(repeat' ((first|(apply AG<;>intro hc<;>try omega)|(apply AZ;omega)|apply AE)<;>conv=>whnf))
    refine BS [] (by (conv=>whnf);exact ⟨rfl,rfl,rfl⟩) (Ahd N q2 q3 bw (DY aw bw) ((DW a b).map BI) sd hn hW Kf yv hB hP qo hS λ m2 hS => ?_);have po:=hS.ht;have AnI:=hS.o6.lr rp (zM po);have uz:rp[c]? = some (rp.getD c 0):=RB (by omega);have xo:=hS.len;have fc:=hS.done yv (by omega);have xd:(P++[c]).length=P.length+1:=by simp
    generalize rp.getD c 0=pv at uz fc;clear hS hE Qc cq;(repeat' ((first|(apply AY;omega)|(refine FY ?_ (λ r hr => ?_);omega)|apply AE)<;>conv=>whnf))
    cases po.symm.trans hr;refine AY (by rw[List.length_map];omega) ?_;(conv=>whnf)
    (repeat' ((first|(apply AZ;omega)|(refine E9 ?_ (λ_=>rfl) (λ v hv => ?_);omega)|refine GP (by assumption) ?_)<;>conv=>whnf))
    cases uz.symm.trans hv;skip
    rw[show ((P.length:Nat):Int)+1=((P++[c]).length:Nat) by rw[xd];omega];exact BS [] (by (conv=>whnf);exact ⟨rfl,rfl,rfl⟩) (eh m2 (P++[c]) (c+1) _ pv (by rw[xd];omega) fc)
   ·clear eh kg
    (repeat' ((first|(apply AG<;>intro hc<;>try omega)|apply AE)<;>conv=>whnf))
    refine ⟨rfl,?_⟩;(conv=>whnf)
    (repeat' ((first|(apply AG<;>intro hc<;>try omega)|fail)<;>conv=>whnf))
    have af:n<=c\/n<=P.length:=Or.inl (by omega);have Dr:=nD (w:=w) hE uv Li im lq af;skip
    refine ⟨.e6 [.sl false [],.int .i64 11],?_,Or.inl ⟨λ h=>absurd (Dr.2 h) (by omega),rfl⟩⟩;(conv=>whnf)
    exact AX rfl (UK [] 11)
  ·clear eh
   intro uw;refine EI (λ c=>n-c) (λ(c:Nat)=>GN m0 K0 (n+w) n m P c odd l) (λ c=>[(8,.int .i64 c)]) (λ_=>[]) [17] [] c (by (conv=>whnf);exact ⟨rfl,rfl,rfl⟩) hE ?_;clear hE;intro c hE ch;have u7:=hE.cc;by_cases qo:c<n
   ·(repeat' ((first|(apply AG<;>intro hc<;>try omega)|apply AE)<;>conv=>whnf))
    refine C5 (λ i=>n-i) (λ(i:Nat)=>P.length<=i/\i<=n /\ ∀ (q:Nat) (r:List Rat),P.length<=q->q<i->m[q]? = some r->r.getD c 0=0) (λ i=>[(11,.int .i64 i)]) (λ_=>[]) P.length ⟨Nat.le_refl _,by omega,λ q r h1 h2=>absurd h1 (by omega)⟩ ?_;intro i ⟨i1,i2,i3⟩ ih;by_cases hi:i<n
    ·obtain ⟨rp,u4⟩ : ∃ r,m[i]? = some r:=⟨_,zE (by omega)⟩
     have jn:=hE.o6.lr rp (zM u4);have ga:rp[c]? = some (rp.getD c 0):=RB (by omega);have xf:=UZ N.toa4 (hE.ms.at u4 _ (zM ga)) (by omega);have hz:=RS (x:=rp.getD c 0);generalize xy:rp.getD c 0=rc at *;generalize n6 rc.num=sg at *;by_cases sj:sg=0
     ·(repeat' ((first|(apply AG<;>intro hc<;>try omega)|(apply AY;omega)|(refine FY ?_ (λ r hr => ?_);omega)|apply AE)<;>conv=>whnf))
      cases u4.symm.trans hr;refine AY (by rw[List.length_map];omega) ?_;(conv=>whnf)
      (repeat' ((first|(refine E9 ?_ (λ_=>rfl) (λ v hv => ?_);omega)|refine GP (by assumption) ?_)<;>conv=>whnf))
      cases ga.symm.trans hv;(repeat' ((first|(apply AG<;>intro hc<;>try omega)|(apply AZ;omega)|refine AD (xf) ?_)<;>conv=>whnf))
      refine BS [] (by (conv=>whnf);exact ⟨rfl,rfl,rfl⟩) (ih (i+1) (by omega) ⟨by omega,by omega,λ q x h1 h2 hx => ?_⟩);by_cases e:q=i
      ·subst e
       cases u4.symm.trans hx;rw[xy];exact hz.1 sj
      ·exact i3 q x h1 (by omega) hx
     ·clear ih ch
      have Gg:rc≠0:=λ e=>sj (hz.2 e)
      (repeat' ((first|(apply AG<;>intro hc<;>try omega)|(apply AY;omega)|(refine FY ?_ (λ r hr => ?_);omega)|apply AE)<;>conv=>whnf))
      cases u4.symm.trans hr;refine AY (by rw[List.length_map];omega) ?_;(conv=>whnf)
      (repeat' ((first|(refine E9 ?_ (λ_=>rfl) (λ v hv => ?_);omega)|refine GP (by assumption) ?_)<;>conv=>whnf))
      cases ga.symm.trans hv;(repeat' ((first|(apply AG<;>intro hc<;>try omega)|(apply AY;omega)|(refine FY ?_ (λ r hr => ?_);omega)|refine GP (by assumption) ?_|refine AD (xf) ?_)<;>conv=>whnf))
      ·obtain ⟨t,Aa⟩ : ∃ t,m[P.length]? = some t:=⟨_,zE (by omega)⟩
       refine AY ⟨rfl,by simp only[BK,List.length_map];omega⟩ ?_;(conv=>whnf)
       (repeat' ((first|(apply AY;omega)|refine GP (by assumption) ?_)<;>conv=>whnf))
       rw[show 0+((i:Nat):Int).toNat=i by omega,show 0+((P.length:Nat):Int).toNat=P.length by omega];refine AY ⟨rfl,by simp only[BK,List.length_map,List.length_set,List.length_range];omega,xC (by simp only[BK,List.length_map];omega)⟩ ?_;(conv=>whnf)
       skip
       have Jk:=hE.swap u4 Aa i1 (Nat.le_refl _) (by omega);have Jz:c<n -> ∃ Rk,((m.set i t).set P.length rp)[P.length]? = some Rk/\Rk.getD c 0≠0:=λ_=>⟨rp,by rw[List.getElem?_set,if_pos rfl,if_pos (by rw[List.length_set];omega)],by rw[xy];exact Gg⟩
       generalize hob:(!odd)=ob at *;cases ob;all_goals
        (conv=>whnf)
        skip
        refine WP.go ?_;refine iV (k:=231016) (i:=i) (j:=P.length) rfl (YV u4) (YV Aa) rfl rfl ?_;rw[AfM];exact BS [] (by (conv=>whnf);exact ⟨rfl,rfl,rfl⟩) (uw _ c _ ⟨Jk,Jz⟩)
      ·have ei:i=P.length:=by omega
       exact WP.go (BS [] (by (conv=>whnf);exact ⟨rfl,rfl,rfl⟩) (uw m c odd ⟨hE,λ_=>⟨rp,by rw[<-ei];exact u4,by rw[xy];exact Gg⟩⟩))
    ·have ei:i=n:=by omega
     clear ih;(repeat' ((first|(apply AG<;>intro hc<;>try omega)|(apply AZ;omega)|apply AE)<;>conv=>whnf))
     exact BM [] (ch (c+1) (by omega) (hE.skip qo λ q x h1 hx=>i3 q x h1 (by have:=(zS hx).1;omega) hx))
   ·clear ch
    (repeat' ((first|(apply AG<;>intro hc<;>try omega)|apply AE)<;>conv=>whnf))
    exact WP.go (BS [] (by (conv=>whnf);exact ⟨rfl,rfl,rfl⟩) (uw m c odd ⟨hE,λ h=>absurd h qo⟩))
 ·clear eh
  (repeat' ((first|(apply AG<;>intro hc<;>try omega)|apply AE)<;>conv=>whnf))
  refine ⟨rfl,?_⟩;(conv=>whnf)
  (repeat' ((first|(apply AG<;>intro hc<;>try omega)|fail)<;>conv=>whnf))
  have af:n<=c\/n<=P.length:=Or.inr (by omega);have Dr:=nD (w:=w) hE uv Li im lq af;have yy:P.length=n:=by have:=hE.o6.le;have:=hE.o6.pl;omega
  have cn:=Dr.1 yy;have Bq:=Ahb hE uv Li im zj yy bm;have Mv:=vI hE yy bm;have hmw:=hE.o6.lr;have kb:=hE.ms;have ug:=hE.bl;have gk:=hE.l0;rw[yy]at kb ug;clear hE Dr js Cb Cc uv;have Hw : ∀ (e:Nat) (r:List Rat),m[e]? = some r->r.getD e 0≠0:=λ e r hr=>by
   rw[<-PS hr];exact (Mv e (by have:=(zS hr).1;omega)).1
  skip
  unfold C1;refine ⟨⟨by omega,by omega,by simp only[EK];omega,by omega⟩,?_⟩;rw[Int.toNat_natCast];(conv=>whnf)
  skip
  refine C5 (λ u=>n-u) (λ(u:Nat)=>u<=n) (λ u=>[(61,.int .i64 u)]) (λ u=>[(58,58,.mx (List.replicate u (some (3,(C0 [] w).map eO))++List.replicate (n-u) none))]) 0 (by omega) ?_;intro u r1 uh;by_cases hu:u<n
  ·obtain ⟨s,bp⟩ : ∃ s,bw[u]? = some s:=⟨_,zE (by omega)⟩
   have vd:bw[(u:Int).toNat]? = some s:=bp;have Ik:=ku s (zM bp);(repeat' ((first|(apply AG<;>intro hc<;>try omega)|apply AU|(refine BA (by assumption) ?_ rfl ?_;omega)|apply AE)<;>conv=>whnf))
   rw[Ik];refine EJ (enc:=eO) none w rfl rfl (by omega) ?_;(conv=>whnf)
   (repeat' ((first|(apply AY;omega)|fail)<;>conv=>whnf))
   unfold AQ CS;refine ⟨by simp,by simp;omega,?_⟩;(conv=>whnf)
   rw[show 0+((u:Int)).toNat=u by omega,<-JZ,Aec _ _ r1 hu];(repeat' ((first|(apply AZ;omega)|fail)<;>conv=>whnf))
   exact BM [] (uh (u+1) (by omega) (by omega))
  have eu:u=n:=by omega
  subst eu;clear uh;obtain ⟨y,hy⟩ : ∃ y:Nat->List Rat,y=λ c'=>(D0 (u+c') l m 0).map (· / l):=⟨_,rfl⟩
  have sv : ∀ c',(y c').length=u:=λ c'=>by rw[hy,List.length_map,OV];exact bm
  have zd:(I9 y u w).length=u:=by simp [I9]
  have pe : ∀ e,e<u->(I9 y u w)[e]? = some ((List.range w).map λ c'=>(y c').getD e 0):=λ e he=>by simp [I9,he]
  have Ov : ∀ r∈I9 y u w,r.length=w:=λ r hr=>by
   obtain ⟨i,_,rfl⟩:=List.mem_map.1 hr;simp
  rw[show List.replicate u (some (3,List.map eO (C0 [] w)))++List.replicate (u-u) none=BK 3 eO (ot (I9 y u w) w 0 0) by rw[Af7,zd];simp [BK]];obtain ⟨s0,bp⟩ : ∃ s,bw[0]? = some s:=⟨_,zE (by omega)⟩;have Mh:bw[(0:Int).toNat]? = some s0:=bp;have Mi:=ku s0 (zM bp);generalize hRg:I9 y u w=R at zd pe Ov ⊢;(repeat' ((first|(apply AG<;>intro hc<;>try omega)|apply AU|(refine BA (by assumption) ?_ rfl ?_;omega)|apply AE)<;>conv=>whnf))
  rw[Mi];refine C5 (λ c=>w-c) (λ(c:Nat)=>c<=w) (λ c=>[(78,.int .i64 c)]) (λ c=>[(58,58,.mx (BK 3 eO (ot R w c 0)))]) 0 (by omega) ?_;intro c' r2 ch;by_cases jc:c'<w
  ·obtain ⟨C,Aq,Ob,hC3,_⟩:=jf m l c' jc bm kb ug gk cn (Bq c' jc)
   have Ar:=Ade N true true m u (u+w) (u+c') (6^u*K0) l bm hmw (by omega) (by omega) (by omega) (by omega) Hw kb ug Aq Ob;have Bi:=Aq 0;rw[List.drop_zero]at Bi;clear Aq Ob;have Cr:=OV (u+c') l m 0;have Qo : ∀ (e:Nat) (x:Rat),(D0 (u+c') l m 0)[e]? = some x->(y c').getD e 0=x/l:=λ e x hx=>by
    rw[hy,List.getD_eq_getElem?_getD,List.getElem?_map,hx];rfl
   rw[bm]at Cr;rw[Int.natCast_add]at Ar;generalize D0 (u+c') l m 0=xs at Ar Bi Cr Qo;(repeat' ((first|(apply AG<;>intro hc<;>try omega)|(apply AZ;omega)|apply AE)<;>conv=>whnf))
   refine QS (λ_=>rfl) rfl (by omega) ?_;(conv=>whnf)
   (repeat' ((first|apply AU|refine AD (Ar) ?_)<;>conv=>whnf))
   refine C5 (λ f=>u-f) (λ(f:Nat)=>f<=u) (λ f=>[(88,.int .i64 f)]) (λ f=>[(58,58,.mx (BK 3 eO (ot R w c' f)))]) 0 (by omega) ?_;intro f r5 fh;by_cases hf2:f<u
   ·obtain ⟨x,hx⟩ : ∃ x,xs[f]? = some x:=⟨_,zE (by omega)⟩
    have mi:xs[(f:Int).toNat]? = some x:=hx;have bx:=Bi.at hx;have hD:=SV N.toa4 bx ug (by omega) (by omega) gk;have Jv:=pe f hf2;have Py:((List.range w).map λ c'=>(y c').getD f 0)[c']? = some (x/l):=by rw[List.getElem?_map,List.getElem?_range jc,Option.map_some,Qo f x hx]
    have Ll:((List.range w).map λ c'=>(y c').getD f 0).length=w:=by simp
    generalize ((List.range w).map λ c'=>(y c').getD f 0)=row at Jv Py Ll;have Qa:=Y9 (n:=w) (j:=c') (i:=f) Jv;rw[if_neg (by omega)]at Qa;have hos:=Af6 (n:=w) (j:=c') Jv;have Ii:=VM R w c' f;have Dk:=HT (l:=row.take c') (m:=w) (by rw[List.length_take];omega);have g8:=IH (l:=row.take c') (m:=w) (x:=x/l) (by rw[List.length_take];omega);rw[List.length_take,Nat.min_eq_left (by omega),<-HK Py]at g8;generalize ot R w c' f=O at *;(repeat' ((first|(apply AG<;>intro hc<;>try omega)|(apply AY;omega)|(refine BA (by assumption) ?_ rfl ?_;omega)|(refine FY ?_ (λ r hr => ?_);omega)|apply AE|refine AD (hD) ?_)<;>conv=>whnf))
    cases Qa.symm.trans hr;skip
    have Ank:=HT (l:=row.take (c'+1)) (m:=w) (by rw[List.length_take];omega);refine AY (by rw[List.length_map];omega) ?_;(conv=>whnf)
    (repeat' ((first|refine GP (by assumption) ?_|fail)<;>conv=>whnf))
    refine ET (enc:=eO) (some (x/l)) rfl (λ e=>by cases e<;>rfl) (by omega) ?_;(conv=>whnf)
    rw[g8];refine zX (by omega) ?_;rw[hos];(conv=>whnf)
    (repeat' ((first|(apply AZ;omega)|fail)<;>conv=>whnf))
    exact BM [] (fh (f+1) (by omega) (by omega))
   have ef:f=u:=by omega
   clear fh;have wi:=Af5 R w c';rw[zd]at wi;rw[ef,wi];(repeat' ((first|(apply AG<;>intro hc<;>try omega)|(apply AZ;omega)|apply AE)<;>conv=>whnf))
   exact BM [] (ch (c'+1) (by omega) (by omega))
  have ec:c'=w:=by omega
  clear ch;rw[ec,Af4 Ov];(repeat' ((first|(apply AG<;>intro hc<;>try omega)|apply AE)<;>conv=>whnf))
  refine ⟨.e6 [.sl false (eM R),.int .i64 0],?_,Or.inr ⟨cn,y,by rw[<-hRg],λ c2 jc=>⟨sv c2,?_,λ i r s h1 h2=>by rw[hy];exact Bq c2 jc i r s h1 h2⟩⟩⟩
  ·(conv=>whnf)
   refine QS (λ_=>rfl) rfl (by omega) ?_;(conv=>whnf)
   exact AX rfl (UK R 0)
  ·rw[hy]
   obtain ⟨C,_,_,_,h4⟩:=jf m l c2 jc bm kb ug gk cn (Bq c2 jc);exact h4
theorem zG {R:List (Option (Nat × List (List AV)))} {e:Nat} {r:Option (Nat × List (List AV))} {K:Option (Nat × List (List AV))->Prop} (h:R[e]? = some r) (hk:K r):BV R e K:=by
 unfold BV;exact ⟨r,h,hk⟩
theorem eL {α:Type} {a b:List α} {j:Nat} {x:α} (hl:a.length=b.length) (hx:b[j]? = some x):(a.take j++b.drop j)[j]? = some x:=by
 have h1:=(zS hx).1;have ht:(a.take j).length=j:=by rw[List.length_take];omega
 rw[List.getElem?_append_right (by omega),ht,Nat.sub_self,List.getElem?_drop];exact hx
theorem eN {α:Type} {a b:List α} {j:Nat} {y:α} (hl:a.length=b.length) (hy:a[j]? = some y):(a.take j++b.drop j).set j y=a.take (j+1)++b.drop (j+1):=by
 have h1:=(zS hy).1;have ht:(a.take j).length=j:=by rw[List.length_take];omega
 rw[List.set_append_right _ _ (by omega),ht,Nat.sub_self,List.drop_eq_getElem_cons (by omega),List.set_cons_zero,List.take_add_one,hy,List.append_assoc];rfl
def FH (k0:Nat):Nat->Nat
 | 0=>k0
 | c+1=>4*FH k0 c+1
theorem tY (k0:Nat) {c:Nat} : ∀ d,FH k0 c<=FH k0 (c+d)
 | 0=>Nat.le_refl _
 | d+1=>by
  have:=tY k0 (c:=c) d
  show FH k0 c<=4*FH k0 (c+d)+1;omega
theorem zF {R:List (Option (Nat × List (List AV)))} {e:Nat} {r:Option (Nat × List (List AV))} {K:Option (Nat × List (List AV))->Prop} (h:R[e]? = some r) (hk:K r):BV R e K:=by
 unfold BV;exact ⟨r,h,hk⟩
theorem AfP {T:List (List Rat)} {n i:Nat} (hl:T.length=n) (hi:i<n):(mz T n i)[i]? = some none:=by
 have fr:(BK 3 eQ (T.take i)).length=i:=by simp only[BK,List.length_map,List.length_take];omega
 have:=Aed (z:=(none:Option (Nat × List (List AV)))) (l:=BK 3 eQ (T.take i)) (m:=n) (by omega)
 rw[fr]at this;exact this
theorem fO {x:Rat} {b:List Rat} {i:Nat} (h:b[i]? = some x):(b.map λ x=>[x])[i]? = some [x]:=by rw[List.getElem?_map,h];rfl
theorem kZ (y:List Rat) (e:Int):A2 (.e6 [.sl false (y.map eQ),.int .i64 e]):=by
 simp only[A2,B8,and_true,true_and];exact IZ y
def OG (x:AM):Option (Nat × List (List AV)):=some (3,[eW x])
theorem WC (b:List AM):vM (b.map λ x=>[x])=(b.map AM.v).map λ x=>[x]:=by simp [vM,List.map_map,Function.comp_def]
def Fs (k:Nat) (r:List AM):Prop := ∀ x∈r,x.Fit k
theorem Fs.of {k:Nat} {r:List Rat} (h:Bs k r) (hk:k<2199023255552):Fs k (wR r):=λ x hx=>by
 obtain ⟨y,hy,rfl⟩:=List.mem_map.1 hx;exact FL (h y hy) hk
theorem Xa (N:o4 L) (q q1 q2:Bool) (aw:List (List AM)) (bw:List AM) (n k K0:Nat) (da:aw.length=n) (cf : ∀ r∈aw,r.length=n) (fo:bw.length=n) (hn:1<=n/\n<=52) (Bx:k<=K0) (yv:1<=K0) (uk:DZ k aw) (ma:Fs k bw)
  (kv : ∀ r∈DW (vM aw) ((bw.map AM.v).map λ x=>[x]),∀ j,Bt K0 (BI (r.take j))) (gx:Ms K0 (whole (DW (vM aw) ((bw.map AM.v).map λ x=>[x]))))
  (hB:6^n*K0<=1000000000000) {B0:Nat} (jf:SG (vM aw) ((bw.map AM.v).map λ x=>[x]) n 1 (6^n*K0) B0) :
  ∃ v,Ev L 237 [.sl q (FE q1 aw),.sl q2 (bw.map eW)] v/\((¬ NS n (vM aw)/\v = .e6 [.sl false [],.int .i64 11])\/(NS n (vM aw) /\ ∃ y:List Rat,v = .e6 [.sl false (y.map eQ),.int .i64 0] /\
   y.length=n/\Bs B0 y /\ ∀ (i:Nat) (r:List Rat) (s:Rat),(vM aw)[i]? = some r->(bw.map AM.v)[i]? = some s->A6 r y=s)):=by
 obtain ⟨a,jo⟩ : ∃ a,vM aw=a:=⟨_,rfl⟩;obtain ⟨b,ou⟩ : ∃ b,bw.map AM.v=b:=⟨_,rfl⟩;have hV:=Adq N q q1 aw n n da cf hn hn;obtain ⟨r0,u4⟩ : ∃ r,aw[0]? = some r:=⟨_,zE (by omega)⟩;have Ck:aw[(0:Int).toNat]? = some r0:=u4;have gk:=cf r0 (zM u4);obtain ⟨v,hS,bn⟩:=Ze N q q1 true true aw (bw.map λ x=>[x]) n 1 k K0 da cf (by rw[List.length_map];exact fo) (λ r hr=>by obtain ⟨x,_,rfl⟩:=List.mem_map.1 hr;rfl) hn (by omega) Bx yv uk (λ r hr=>by
  obtain ⟨x,hx,rfl⟩:=List.mem_map.1 hr;intro z hz;obtain rfl:=List.mem_singleton.1 hz;exact ma z hx) (by rw[WC];exact kv) (by rw[WC];exact gx) hB (by rw[WC];exact jf)
 rw[WC,jo,ou]at bn;rw[jo,ou];refine Ev.xE N.K7 rfl rfl ?_;(repeat' ((first|(apply AG<;>intro hc<;>try omega)|apply AU|(refine BA (by assumption) ?_ rfl ?_;omega)|apply AE|refine AD (hV) ?_)<;>conv=>whnf))
 unfold C1;refine ⟨⟨by omega,by omega,by simp only[EK];omega,by omega⟩,?_⟩;rw[Int.toNat_natCast,fo];(conv=>whnf)
 (repeat' (apply AU<;>conv=>whnf))
 refine EI (λ i=>n-i) (λ(i:Nat)=>i<=n) (λ i=>[(35,.int .i64 i)]) (λ i=>[(32,32,.mx (fz none ((bw.take i).map OG) n))]) [] [] 0 (by first|exact (by (conv=>whnf);exact ⟨rfl,rfl,rfl⟩)|(rw[List.take_zero,List.map_nil,show fz (none:Option (Nat × List (List AV))) [] n=List.replicate n none by simp [fz]];exact (by (conv=>whnf);exact ⟨rfl,rfl,rfl⟩))) (by omega) ?_;intro i p1 ih;have jy:=dI (z:=(none:Option (Nat × List (List AV)))) (l:=(bw.take i).map OG) (m:=n) (by rw[List.length_map,List.length_take];omega);by_cases hi:i<n
 ·obtain ⟨x,hx⟩ : ∃ x,bw[i]? = some x:=⟨_,zE (by omega)⟩
  have mi:bw[(i:Int).toNat]? = some x:=hx;have rm:=dJ (z:=(none:Option (Nat × List (List AV)))) (x:=OG x) (l:=(bw.take i).map OG) (m:=n) (by rw[List.length_map,List.length_take];omega);rw[List.length_map,List.length_take,Nat.min_eq_left (by omega),show (bw.take i).map OG++[OG x]=(bw.take (i+1)).map OG by rw[List.take_add_one,hx,List.map_append];rfl]at rm;generalize fz (none:Option (Nat × List (List AV))) ((bw.take i).map OG) n=J at *;have Lc:J.set i (some (3,[[AV.bool x.n,AV.sl false (x.m.map AL),AV.sl false (x.d.map AL)]]))=fz none ((bw.take (i+1)).map OG) n:=rm;(repeat' ((first|(apply AG<;>intro hc<;>try omega)|(apply AY;omega)|(refine BA (by assumption) ?_ rfl ?_;omega)|apply AE)<;>conv=>whnf))
  unfold AQ CS;refine ⟨by simp,by omega,?_⟩;(conv=>whnf)
  rw[show 0+((i:Int)).toNat=i by omega,Lc];(repeat' ((first|(apply AZ;omega)|fail)<;>conv=>whnf))
  exact BM [] (ih (i+1) (by omega) (by omega))
 have ei:i=n:=by omega
 clear ih jy;rw[ei,zT (by omega),dH (by rw[List.length_map];exact fo),show bw.map OG=BK 3 eW (bw.map λ x=>[x]) by rw[BK,List.map_map];rfl];(repeat' ((first|(apply AG<;>intro hc<;>try omega)|(refine QS (λ_=>rfl) rfl ?_ ?_;(first|rfl|simp))|apply AE)<;>conv=>whnf))
 ·exact fo.symm
 (conv=>whnf)
 rcases bn with ⟨cn,rfl⟩|⟨cn,y,rfl,hy⟩
 ·(repeat' ((first|(apply AG<;>intro hc<;>try omega)|refine AD (hS) ?_)<;>conv=>whnf))
  refine ⟨.e6 [.sl false [],.int .i64 11],?_,Or.inl ⟨cn,rfl⟩⟩;(conv=>whnf)
  exact AX rfl (UK [] 11)
 ·obtain ⟨sv,nr,sz⟩:=hy 0 (by omega)
  have pe : ∀ e,e<n->(I9 y n 1)[e]? = some [(y 0).getD e 0]:=λ e he=>by simp [I9,he]
  have zd:(I9 y n 1).length=n:=by simp [I9]
  generalize I9 y n 1=R at *;(repeat' ((first|(apply AG<;>intro hc<;>try omega)|apply AU|refine AD (hS) ?_)<;>conv=>whnf))
  rw[zd];refine EJ (enc:=eO) none n rfl rfl (by omega) ?_;(conv=>whnf)
  (repeat' (apply AU<;>conv=>whnf))
  refine EI (λ e=>n-e) (λ(e:Nat)=>e<=n) (λ e=>[(60,.int .i64 e)]) (λ e=>[(57,57,.rw 3 ((C0 ((y 0).take e) n).map eO))]) [] [] 0 (by first|exact (by (conv=>whnf);exact ⟨rfl,rfl,rfl⟩)|(rw[List.take_zero,<-JZ];exact (by (conv=>whnf);exact ⟨rfl,rfl,rfl⟩))) (by omega) ?_;intro e p2 eh;have Dk:=HT (l:=(y 0).take e) (m:=n) (by rw[List.length_take];omega);by_cases Fo:e<n
  ·obtain ⟨x,hx⟩ : ∃ x,(y 0)[e]? = some x:=⟨_,zE (by omega)⟩
   have g8:=IH (l:=(y 0).take e) (m:=n) (x:=x) (by rw[List.length_take];omega);rw[List.length_take,Nat.min_eq_left (by omega),<-HK hx]at g8;have Ot:=pe e Fo;rw[show (y 0).getD e 0=x by rw[List.getD_eq_getElem?_getD,hx];rfl]at Ot;have Amv:R[(e:Int).toNat]? = some [x]:=Ot;have mj:[x][(0:Int).toNat]? = some x:=rfl;generalize C0 ((y 0).take e) n=F0 at *;(repeat' ((first|(apply AG<;>intro hc<;>try omega)|(apply AY;omega)|(refine BA (by assumption) ?_ rfl ?_;omega)|apply AE)<;>conv=>whnf))
   refine ET (enc:=eO) (some x) rfl (λ e=>by cases e<;>rfl) (by omega) ?_;(conv=>whnf)
   rw[g8];(repeat' ((first|(apply AZ;omega)|fail)<;>conv=>whnf))
   exact BM [] (eh (e+1) (by omega) (by omega))
  have ee:e=n:=by omega
  clear eh;rw[ee,zT (by omega),JY sv];(repeat' ((first|(apply AG<;>intro hc<;>try omega)|apply AE)<;>conv=>whnf))
  refine ⟨.e6 [.sl false ((y 0).map eQ),.int .i64 0],?_,Or.inr ⟨cn,y 0,rfl,sv,nr,λ i r s h1 h2 => ?_⟩⟩
  ·(conv=>whnf)
   refine EE (enc:=eQ) (λ_=>rfl) rfl sv.symm ?_;(conv=>whnf)
   exact AX rfl (kZ (y 0) 0)
  ·exact sz i r [s] h1 (fO h2)
theorem Xb (N:o4 L) (q q1 q2:Bool) (a:List (List Rat)) (b:List Rat) (n k K0:Nat) (lq:a.length=n) (im : ∀ r∈a,r.length=n) (jg:b.length=n) (hn:1<=n/\n<=52) (Bx:k<=K0) (yv:1<=K0) (nb:Ms k a) (nf:Bs k b)
  (kv : ∀ r∈DW a (b.map λ x=>[x]),∀ j,Bt K0 (BI (r.take j))) (gx:Ms K0 (whole (DW a (b.map λ x=>[x]))))
  (hB:6^n*K0<=1000000000000) {B0:Nat} (jf:SG a (b.map λ x=>[x]) n 1 (6^n*K0) B0) :
  ∃ v,Ev L 237 [.sl q (cB q1 a),.sl q2 (b.map eQ)] v/\((¬ NS n a/\v = .e6 [.sl false [],.int .i64 11])\/(NS n a /\ ∃ y:List Rat,v = .e6 [.sl false (y.map eQ),.int .i64 0] /\
   y.length=n/\Bs B0 y /\ ∀ (i:Nat) (r:List Rat) (s:Rat),a[i]? = some r->b[i]? = some s->A6 r y=s)):=by
 have ig:k<2199023255552:=by
  have:=ZD hB (Nat.zero_le n)
  rw[Nat.pow_zero,Nat.one_mul]at this;omega
 have:=Xa N q q1 q2 (wM a) (wR b) n k K0 (Z9 lq) (aA im) (by rw[wR,List.length_map];exact jg) hn Bx yv (DZ.of nb ig) (Fs.of nf ig) (by rw[TU,QJ];exact kv) (by rw[TU,QJ];exact gx) hB (by rw[TU,QJ];exact jf)
 rw[mY,ST,TU,QJ]at this;exact this
def Y6 (l:List Rat):Option (Nat × List (List AV)):=if l=[] then none else some (3,l.map eQ)
theorem sY:Y6 []=none:=if_pos rfl
theorem Y7 {l:List Rat} (h:0<l.length):Y6 l=some (3,l.map eQ):=if_neg (λ e=>by rw[e]at h;cases h)
theorem Adk (N:j8 L) (g:List Pt) (sx sy:Rat) (n kx kw ky KW:Nat) (hg:NZ kx kw ky g) (hlen:1<=g.length/\g.length<=12) (hn:1<=n/\n<=6) (Dj:ky<=1000000) (hKW:kw+10*kx+12<=KW) (Jo:KW<=1000000) :
  Ev L 265 [.agg (eG (g.map (·.x)) (g.map (·.y)) (g.map (·.w)) sx sy),.int .i64 n] (.e6 [.sl false (eM (GR g n)),.sl false ((GT g n).map eQ)]):=by
 have hO:=O2 N.toa4 0 (by omega);obtain ⟨m,hm⟩ : ∃ m,g.length=m:=⟨_,rfl⟩;obtain ⟨NN,hNN⟩ : ∃ NN,NN=2*n-1:=⟨_,rfl⟩;have Fa:(g.map (·.w)).length=m:=by rw[List.length_map];exact hm
 have Fc : ∀ (i:Nat) (p:Pt),g[i]? = some p->(g.map (·.x))[i]? = some p.x:=λ i p h=>by rw[List.getElem?_map,h];rfl
 have xi : ∀ (i:Nat) (p:Pt),g[i]? = some p->(g.map (·.y))[i]? = some p.y:=λ i p h=>by rw[List.getElem?_map,h];rfl
 obtain ⟨PW,Hl⟩ : ∃ PW:Nat->List Rat,PW=λ k=>g.map λ p=>p.w*p.x^k:=⟨_,rfl⟩
 have js : ∀ k,(PW k).length=m:=λ k=>by rw[Hl];simp [hm]
 have pc : ∀ (k i:Nat) (p:Pt),g[i]? = some p->(PW k)[i]? = some (p.w*p.x^k):=λ k i p h=>by rw[Hl,List.getElem?_map,h];rfl
 have hW0:g.map (·.w)=PW 0:=by
  rw[Hl];exact List.map_congr_left λ p _=>by rw[Rat.pow_zero,Rat.mul_one]
 rw[hW0]at Fa ⊢;obtain ⟨MM,Hk⟩ : ∃ MM:List Rat,MM=(List.range NN).map (bz g):=⟨_,rfl⟩;have On:MM.length=NN:=by rw[Hk];simp
 have Ax : ∀ k,k<NN->MM[k]? = some (bz g k):=λ k hk=>by rw[Hk];simp [hk]
 obtain ⟨RR,Hm⟩ : ∃ RR:List Rat,RR=GT g n:=⟨_,rfl⟩;have zd:RR.length=n:=by rw[Hm,GT];simp
 have pe : ∀ k,k<n->RR[k]? = some (rhs g k):=λ k hk=>by rw[Hm,GT];simp [hk]
 rw[<-Hm];clear Hl Hk Hm;generalize g.map (·.x)=X at *;generalize g.map (·.y)=Y at *;refine Ev.x N.K3 rfl rfl ?_;(repeat' ((first|(apply B1;omega)|(apply N0;omega)|apply AE)<;>conv=>whnf))
 refine EJ (enc:=eO) none NN rfl (by omega) (by omega) ?_;(conv=>whnf)
 skip
 refine EJ (enc:=eO) none n rfl rfl (by omega) ?_;(conv=>whnf)
 (repeat' ((first|(apply B1;omega)|(apply N0;omega))<;>conv=>whnf))
 rw[show List.map eO (List.replicate NN none)=List.map eO (C0 (MM.take 0) NN) by rw[List.take_zero,JZ]];rw[show List.map eO (List.replicate n none)=List.map eO (C0 (RR.take 0) n) by rw[List.take_zero,JZ]];refine JS (λ k _=>NN-k) (λ(k:Nat) (fl:Bool)=>k<=NN/\fl=decide (k=0)) (λ k fl=>[(29,.int .i64 k),(8,bif fl then .sl false ((PW 0).map eQ) else .row 38 0 3 0 m)]) (λ k fl=>[(21,21,.rw 3 ((C0 (MM.take k) NN).map eO)),(23,23,.rw 3 ((C0 (RR.take k) n).map eO))]++bif fl then [] else [(38,38,.rw 3 ((PW k).map eQ))]) 0 true ⟨by omega,rfl⟩ ?_;intro k fl ⟨k1,k2⟩ kh;by_cases hkN:k<NN
 ·cases fl
  ·have Ib:k≠0:=λ e=>by rw[e]at k2;cases k2
   have Ew:=pc k;have Jr:=js k;have hkx:=S5 kx (show k<=10 by omega);have hMk:Wh KW (bz g k):=(hg.bz k).le (by omega);have Jl:=HT (l:=MM.take k) (m:=NN) (by rw[List.length_take];omega);have Em:=IH (l:=MM.take k) (m:=NN) (x:=bz g k) (by rw[List.length_take];omega);rw[List.length_take,Nat.min_eq_left (by omega),<-HK (Ax k (by omega))]at Em;generalize C0 (MM.take k) NN=F at *;(repeat' ((first|(apply AG<;>intro hc<;>try omega)|(apply AY;omega)|apply AE|refine AD (hO) ?_)<;>conv=>whnf))
   refine ET (enc:=eO) (some ((0:Int):Rat)) rfl (λ e=>by cases e<;>rfl) (by omega) ?_;(conv=>whnf)
   skip
   try rw[Fa]
   refine EJ (enc:=eO) none m rfl rfl (by omega) ?_;(conv=>whnf)
   skip
   refine EI (λ i=>m-i) (λ(i:Nat)=>i<=m) (λ i=>[(41,.int .i64 i)]) (λ i=>[(21,21,.rw 3 ((F.set k (some (BO (g.take i) λ p=>p.w*p.x^k))).map eO)),(1000038,38,.rw 3 ((C0 ((PW (k+1)).take i) m).map eO))]) [] [] 0 (by first|exact (by (conv=>whnf);exact ⟨rfl,rfl,rfl⟩)|(rw[List.take_zero,List.take_zero,<-JZ];exact (by (conv=>whnf);exact ⟨rfl,rfl,rfl⟩))) (by omega) ?_;intro i i1 lh;have ix:=HT (l:=(PW (k+1)).take i) (m:=m) (by rw[List.length_take,js];omega);have jf:Wh KW (BO (g.take i) λ p=>p.w*p.x^k):=(RZ (k:=kw+k*kx) λ p hp=>(hg.ww p (List.mem_of_mem_take hp)).mul ((hg.wx p (List.mem_of_mem_take hp)).pow k)).le (by rw[List.length_take];omega);by_cases hi:i<m
   ·obtain ⟨p,hp⟩ : ∃ p,g[i]? = some p:=⟨_,zE (by omega)⟩
    have pj:=zM hp;have vo:(PW k)[i]? = some (p.w*p.x^k):=Ew i p hp;have Cq:(PW k)[(i:Int).toNat]? = some (p.w*p.x^k):=vo;have Na:X[(i:Int).toNat]? = some p.x:=Fc i p hp;have gx:Wh KW (p.w*p.x^k):=((hg.ww p pj).mul ((hg.wx p pj).pow k)).le (by omega);have hA:=Q6 N.toa4 jf.bt gx.bt (by omega) (by omega);have hM:=G3 N.toa4 gx.bt (hg.wx p pj).bt (by omega) (by omega);rw[show p.w*p.x^k*p.x=p.w*p.x^(k+1) by rw[Rat.pow_succ,Rat.mul_assoc]]at hM;rw[show (BO (g.take i) λ p=>p.w*p.x^k)+p.w*p.x^k=BO (g.take (i+1)) λ p=>p.w*p.x^k by rw[FU hp];exact (QG p _ _).symm]at hA;have g8:=IH (l:=(PW (k+1)).take i) (m:=m) (x:=p.w*p.x^(k+1)) (by rw[List.length_take,js];omega);rw[List.length_take,js,Nat.min_eq_left (by omega),<-HK (pc (k+1) i p hp)]at g8;have Av:(F.set k (some (BO (g.take i) λ p=>p.w*p.x^k)))[k]? = some (some (BO (g.take i) λ p=>p.w*p.x^k)):=by rw[List.getElem?_set,if_pos rfl,if_pos (by omega)]
    have Aw:(F.set k (some (BO (g.take i) λ p=>p.w*p.x^k))).length=NN:=by rw[List.length_set];exact Jl
    have Au : ∀ z,(F.set k (some (BO (g.take i) λ p=>p.w*p.x^k))).set k z=F.set k z:=λ z=>List.set_set ..
    generalize F.set k (some (BO (g.take i) λ p=>p.w*p.x^k))=F1 at *;generalize (BO (g.take i) λ p=>p.w*p.x^k)=s0 at *;generalize mf:(BO (g.take (i+1)) λ p=>p.w*p.x^k)=s1 at hA;generalize C0 ((PW (k+1)).take i) m=P0 at *;generalize p.w*p.x^(k+1)=w1 at *;generalize p.w*p.x^k=w0 at *;(repeat' ((first|(apply AG<;>intro hc<;>try omega)|(apply AY;omega)|(refine E9 ?_ (λ_=>rfl) (λ v hv => ?_);omega)|apply AE)<;>conv=>whnf))
    try cases vo.symm.trans hv
    try skip
    refine JV (enc:=eO) (e:=some s0) (by rw[Nat.zero_add,Int.toNat_natCast];exact Av) rfl ?_;(conv=>whnf)
    (repeat' ((first|(apply AY;omega)|refine AD (hA) ?_)<;>conv=>whnf))
    refine ET (enc:=eO) (some s1) rfl (λ e=>by cases e<;>rfl) (by omega) ?_;(conv=>whnf)
    rw[Au];(repeat' ((first|(apply AY;omega)|(refine BA (by assumption) ?_ rfl ?_;omega)|refine AD (hM) ?_)<;>conv=>whnf))
    refine ET (enc:=eO) (some w1) rfl (λ e=>by cases e<;>rfl) (by omega) ?_;(conv=>whnf)
    rw[g8];(repeat' ((first|(apply AZ;omega)|fail)<;>conv=>whnf))
    subst mf;exact BM [] (lh (i+1) (by omega) (by omega))
   have ei:i=m:=by omega
   clear lh;rw[ei,zT (show g.length<=m by omega),show (BO g λ p=>p.w*p.x^k)=bz g k from rfl,Em,zT (show (PW (k+1)).length<=m by rw[js];omega),JY (js (k+1))];by_cases Ic:k<n
   ·have Da:=HT (l:=RR.take k) (m:=n) (by rw[List.length_take];omega)
    have Eo:=IH (l:=RR.take k) (m:=n) (x:=rhs g k) (by rw[List.length_take];omega);rw[List.length_take,Nat.min_eq_left (by omega),<-HK (pe k Ic)]at Eo;generalize C0 (RR.take k) n=G at *;(repeat' ((first|(apply AG<;>intro hc<;>try omega)|(apply AY;omega)|apply AE|refine AD (hO) ?_)<;>conv=>whnf))
    refine ET (enc:=eO) (some ((0:Int):Rat)) rfl (λ e=>by cases e<;>rfl) (by omega) ?_;(conv=>whnf)
    skip
    refine EI (λ i=>m-i) (λ(i:Nat)=>i<=m) (λ i=>[(75,.int .i64 i)]) (λ i=>[(23,23,.rw 3 ((G.set k (some (BO (g.take i) λ p=>p.w*p.x^k*p.y))).map eO))]) [] [] 0 (by first|exact (by (conv=>whnf);exact ⟨rfl,rfl,rfl⟩)|(rw[List.take_zero];exact (by (conv=>whnf);exact ⟨rfl,rfl,rfl⟩))) (by omega) ?_;intro i i1 lh;have jf:Wh (KW+ky+12) (BO (g.take i) λ p=>p.w*p.x^k*p.y):=(RZ (k:=kw+k*kx+ky) λ p hp=>((hg.ww p (List.mem_of_mem_take hp)).mul ((hg.wx p (List.mem_of_mem_take hp)).pow k)).mul (hg.wy p (List.mem_of_mem_take hp))).le (by rw[List.length_take];omega);by_cases hi:i<m
    ·obtain ⟨p,hp⟩ : ∃ p,g[i]? = some p:=⟨_,zE (by omega)⟩
     have pj:=zM hp;have vo:(PW k)[i]? = some (p.w*p.x^k):=Ew i p hp;have Cq:(PW k)[(i:Int).toNat]? = some (p.w*p.x^k):=vo;have Nf:Y[(i:Int).toNat]? = some p.y:=xi i p hp;have gx:Wh KW (p.w*p.x^k):=((hg.ww p pj).mul ((hg.wx p pj).pow k)).le (by omega);have nr:=hg.wy p pj;have hM:=G3 N.toa4 gx.bt nr.bt (by omega) (by omega);have hA:=Q6 N.toa4 jf.bt (gx.mul nr).bt (by omega) (by omega);rw[show (BO (g.take i) λ p=>p.w*p.x^k*p.y)+p.w*p.x^k*p.y=BO (g.take (i+1)) λ p=>p.w*p.x^k*p.y by rw[FU hp];exact (QG p _ _).symm]at hA;have Av:(G.set k (some (BO (g.take i) λ p=>p.w*p.x^k*p.y)))[k]? = some (some (BO (g.take i) λ p=>p.w*p.x^k*p.y)):=by rw[List.getElem?_set,if_pos rfl,if_pos (by omega)]
     have Aw:(G.set k (some (BO (g.take i) λ p=>p.w*p.x^k*p.y))).length=n:=by rw[List.length_set];exact Da
     have Au : ∀ z,(G.set k (some (BO (g.take i) λ p=>p.w*p.x^k*p.y))).set k z=G.set k z:=λ z=>List.set_set ..
     generalize G.set k (some (BO (g.take i) λ p=>p.w*p.x^k*p.y))=F1 at *;generalize (BO (g.take i) λ p=>p.w*p.x^k*p.y)=s0 at *;generalize mf:(BO (g.take (i+1)) λ p=>p.w*p.x^k*p.y)=s1 at hA;generalize p.w*p.x^k=w0 at *;generalize w0*p.y=wy at *;(repeat' ((first|(apply AG<;>intro hc<;>try omega)|(apply AY;omega)|(refine E9 ?_ (λ_=>rfl) (λ v hv => ?_);omega)|apply AE)<;>conv=>whnf))
     try cases vo.symm.trans hv
     try skip
     refine JV (enc:=eO) (e:=some s0) (by rw[Nat.zero_add,Int.toNat_natCast];exact Av) rfl ?_;(conv=>whnf)
     (repeat' ((first|(apply AY;omega)|(refine BA (by assumption) ?_ rfl ?_;omega)|refine AD (hM) ?_|refine AD (hA) ?_)<;>conv=>whnf))
     refine ET (enc:=eO) (some s1) rfl (λ e=>by cases e<;>rfl) (by omega) ?_;(conv=>whnf)
     rw[Au];(repeat' ((first|(apply AZ;omega)|fail)<;>conv=>whnf))
     subst mf;exact BM [] (lh (i+1) (by omega) (by omega))
    have ei:i=m:=by omega
    clear lh;rw[ei,zT (show g.length<=m by omega),show (BO g λ p=>p.w*p.x^k*p.y)=rhs g k from rfl,Eo];(repeat' ((first|(apply AG<;>intro hc<;>try omega)|(apply AZ;omega)|apply AE)<;>conv=>whnf))
    exact BM [(38,1000038)] (kh (k+1) false (by omega) ⟨by omega,by simp⟩)
   ·have En:C0 (RR.take k) n=C0 (RR.take (k+1)) n:=by rw[zT (by omega),zT (by omega)]
    rw[En];(repeat' ((first|(apply AG<;>intro hc<;>try omega)|(apply AZ;omega)|apply AE)<;>conv=>whnf))
    exact BM [(38,1000038)] (kh (k+1) false (by omega) ⟨by omega,by simp⟩)
  ·have Ib:k=0:=by simpa using k2.symm
   have Ew : ∀ (i:Nat) (p:Pt),g[i]? = some p->(PW 0)[i]? = some (p.w*p.x^k):=λ i p h=>by rw[Ib];exact pc 0 i p h
   clear Ib;have Jr:=js k;have hkx:=S5 kx (show k<=10 by omega);have hMk:Wh KW (bz g k):=(hg.bz k).le (by omega);have Jl:=HT (l:=MM.take k) (m:=NN) (by rw[List.length_take];omega);have Em:=IH (l:=MM.take k) (m:=NN) (x:=bz g k) (by rw[List.length_take];omega);rw[List.length_take,Nat.min_eq_left (by omega),<-HK (Ax k (by omega))]at Em;generalize C0 (MM.take k) NN=F at *;(repeat' ((first|(apply AG<;>intro hc<;>try omega)|(apply AY;omega)|apply AE|refine AD (hO) ?_)<;>conv=>whnf))
   refine ET (enc:=eO) (some ((0:Int):Rat)) rfl (λ e=>by cases e<;>rfl) (by omega) ?_;(conv=>whnf)
   (repeat' (apply AU<;>conv=>whnf))
   try rw[Fa]
   refine EJ (enc:=eO) none m rfl rfl (by omega) ?_;(conv=>whnf)
   (repeat' (apply AU<;>conv=>whnf))
   refine EI (λ i=>m-i) (λ(i:Nat)=>i<=m) (λ i=>[(41,.int .i64 i)]) (λ i=>[(21,21,.rw 3 ((F.set k (some (BO (g.take i) λ p=>p.w*p.x^k))).map eO)),(38,38,.rw 3 ((C0 ((PW (k+1)).take i) m).map eO))]) [] [] 0 (by first|exact (by (conv=>whnf);exact ⟨rfl,rfl,rfl⟩)|(rw[List.take_zero,List.take_zero,<-JZ];exact (by (conv=>whnf);exact ⟨rfl,rfl,rfl⟩))) (by omega) ?_;intro i i1 lh;have ix:=HT (l:=(PW (k+1)).take i) (m:=m) (by rw[List.length_take,js];omega);have jf:Wh KW (BO (g.take i) λ p=>p.w*p.x^k):=(RZ (k:=kw+k*kx) λ p hp=>(hg.ww p (List.mem_of_mem_take hp)).mul ((hg.wx p (List.mem_of_mem_take hp)).pow k)).le (by rw[List.length_take];omega);by_cases hi:i<m
   ·obtain ⟨p,hp⟩ : ∃ p,g[i]? = some p:=⟨_,zE (by omega)⟩
    have pj:=zM hp;have vo:(PW 0)[i]? = some (p.w*p.x^k):=Ew i p hp;have Cq:(PW 0)[(i:Int).toNat]? = some (p.w*p.x^k):=vo;have Na:X[(i:Int).toNat]? = some p.x:=Fc i p hp;have gx:Wh KW (p.w*p.x^k):=((hg.ww p pj).mul ((hg.wx p pj).pow k)).le (by omega);have hA:=Q6 N.toa4 jf.bt gx.bt (by omega) (by omega);have hM:=G3 N.toa4 gx.bt (hg.wx p pj).bt (by omega) (by omega);rw[show p.w*p.x^k*p.x=p.w*p.x^(k+1) by rw[Rat.pow_succ,Rat.mul_assoc]]at hM;rw[show (BO (g.take i) λ p=>p.w*p.x^k)+p.w*p.x^k=BO (g.take (i+1)) λ p=>p.w*p.x^k by rw[FU hp];exact (QG p _ _).symm]at hA;have g8:=IH (l:=(PW (k+1)).take i) (m:=m) (x:=p.w*p.x^(k+1)) (by rw[List.length_take,js];omega);rw[List.length_take,js,Nat.min_eq_left (by omega),<-HK (pc (k+1) i p hp)]at g8;have Av:(F.set k (some (BO (g.take i) λ p=>p.w*p.x^k)))[k]? = some (some (BO (g.take i) λ p=>p.w*p.x^k)):=by rw[List.getElem?_set,if_pos rfl,if_pos (by omega)]
    have Aw:(F.set k (some (BO (g.take i) λ p=>p.w*p.x^k))).length=NN:=by rw[List.length_set];exact Jl
    have Au : ∀ z,(F.set k (some (BO (g.take i) λ p=>p.w*p.x^k))).set k z=F.set k z:=λ z=>List.set_set ..
    generalize F.set k (some (BO (g.take i) λ p=>p.w*p.x^k))=F1 at *;generalize (BO (g.take i) λ p=>p.w*p.x^k)=s0 at *;generalize mf:(BO (g.take (i+1)) λ p=>p.w*p.x^k)=s1 at hA;generalize C0 ((PW (k+1)).take i) m=P0 at *;generalize p.w*p.x^(k+1)=w1 at *;generalize p.w*p.x^k=w0 at *;(repeat' ((first|(apply AG<;>intro hc<;>try omega)|(apply AY;omega)|(refine BA (by assumption) ?_ rfl ?_;omega)|apply AE)<;>conv=>whnf))
    try cases vo.symm.trans hv
    try skip
    refine JV (enc:=eO) (e:=some s0) (by rw[Nat.zero_add,Int.toNat_natCast];exact Av) rfl ?_;(conv=>whnf)
    (repeat' ((first|(apply AY;omega)|refine AD (hA) ?_)<;>conv=>whnf))
    refine ET (enc:=eO) (some s1) rfl (λ e=>by cases e<;>rfl) (by omega) ?_;(conv=>whnf)
    rw[Au];(repeat' ((first|(apply AY;omega)|(refine BA (by assumption) ?_ rfl ?_;omega)|refine AD (hM) ?_)<;>conv=>whnf))
    refine ET (enc:=eO) (some w1) rfl (λ e=>by cases e<;>rfl) (by omega) ?_;(conv=>whnf)
    rw[g8];(repeat' ((first|(apply AZ;omega)|fail)<;>conv=>whnf))
    subst mf;exact BM [] (lh (i+1) (by omega) (by omega))
   have ei:i=m:=by omega
   clear lh;rw[ei,zT (show g.length<=m by omega),show (BO g λ p=>p.w*p.x^k)=bz g k from rfl,Em,zT (show (PW (k+1)).length<=m by rw[js];omega),JY (js (k+1))];by_cases Ic:k<n
   ·have Da:=HT (l:=RR.take k) (m:=n) (by rw[List.length_take];omega)
    have Eo:=IH (l:=RR.take k) (m:=n) (x:=rhs g k) (by rw[List.length_take];omega);rw[List.length_take,Nat.min_eq_left (by omega),<-HK (pe k Ic)]at Eo;generalize C0 (RR.take k) n=G at *;(repeat' ((first|(apply AG<;>intro hc<;>try omega)|(apply AY;omega)|apply AE|refine AD (hO) ?_)<;>conv=>whnf))
    refine ET (enc:=eO) (some ((0:Int):Rat)) rfl (λ e=>by cases e<;>rfl) (by omega) ?_;(conv=>whnf)
    (repeat' (apply AU<;>conv=>whnf))
    refine EI (λ i=>m-i) (λ(i:Nat)=>i<=m) (λ i=>[(75,.int .i64 i)]) (λ i=>[(23,23,.rw 3 ((G.set k (some (BO (g.take i) λ p=>p.w*p.x^k*p.y))).map eO))]) [] [] 0 (by first|exact (by (conv=>whnf);exact ⟨rfl,rfl,rfl⟩)|(rw[List.take_zero];exact (by (conv=>whnf);exact ⟨rfl,rfl,rfl⟩))) (by omega) ?_;intro i i1 lh;have jf:Wh (KW+ky+12) (BO (g.take i) λ p=>p.w*p.x^k*p.y):=(RZ (k:=kw+k*kx+ky) λ p hp=>((hg.ww p (List.mem_of_mem_take hp)).mul ((hg.wx p (List.mem_of_mem_take hp)).pow k)).mul (hg.wy p (List.mem_of_mem_take hp))).le (by rw[List.length_take];omega);by_cases hi:i<m
    ·obtain ⟨p,hp⟩ : ∃ p,g[i]? = some p:=⟨_,zE (by omega)⟩
     have pj:=zM hp;have vo:(PW 0)[i]? = some (p.w*p.x^k):=Ew i p hp;have Cq:(PW 0)[(i:Int).toNat]? = some (p.w*p.x^k):=vo;have Nf:Y[(i:Int).toNat]? = some p.y:=xi i p hp;have gx:Wh KW (p.w*p.x^k):=((hg.ww p pj).mul ((hg.wx p pj).pow k)).le (by omega);have nr:=hg.wy p pj;have hM:=G3 N.toa4 gx.bt nr.bt (by omega) (by omega);have hA:=Q6 N.toa4 jf.bt (gx.mul nr).bt (by omega) (by omega);rw[show (BO (g.take i) λ p=>p.w*p.x^k*p.y)+p.w*p.x^k*p.y=BO (g.take (i+1)) λ p=>p.w*p.x^k*p.y by rw[FU hp];exact (QG p _ _).symm]at hA;have Av:(G.set k (some (BO (g.take i) λ p=>p.w*p.x^k*p.y)))[k]? = some (some (BO (g.take i) λ p=>p.w*p.x^k*p.y)):=by rw[List.getElem?_set,if_pos rfl,if_pos (by omega)]
     have Aw:(G.set k (some (BO (g.take i) λ p=>p.w*p.x^k*p.y))).length=n:=by rw[List.length_set];exact Da
     have Au : ∀ z,(G.set k (some (BO (g.take i) λ p=>p.w*p.x^k*p.y))).set k z=G.set k z:=λ z=>List.set_set ..
     generalize G.set k (some (BO (g.take i) λ p=>p.w*p.x^k*p.y))=F1 at *;generalize (BO (g.take i) λ p=>p.w*p.x^k*p.y)=s0 at *;generalize mf:(BO (g.take (i+1)) λ p=>p.w*p.x^k*p.y)=s1 at hA;generalize p.w*p.x^k=w0 at *;generalize w0*p.y=wy at *;(repeat' ((first|(apply AG<;>intro hc<;>try omega)|(apply AY;omega)|(refine BA (by assumption) ?_ rfl ?_;omega)|apply AE)<;>conv=>whnf))
     try cases vo.symm.trans hv
     try skip
     refine JV (enc:=eO) (e:=some s0) (by rw[Nat.zero_add,Int.toNat_natCast];exact Av) rfl ?_;(conv=>whnf)
     (repeat' ((first|(apply AY;omega)|(refine BA (by assumption) ?_ rfl ?_;omega)|refine AD (hM) ?_|refine AD (hA) ?_)<;>conv=>whnf))
     refine ET (enc:=eO) (some s1) rfl (λ e=>by cases e<;>rfl) (by omega) ?_;(conv=>whnf)
     rw[Au];(repeat' ((first|(apply AZ;omega)|fail)<;>conv=>whnf))
     subst mf;exact BM [] (lh (i+1) (by omega) (by omega))
    have ei:i=m:=by omega
    clear lh;rw[ei,zT (show g.length<=m by omega),show (BO g λ p=>p.w*p.x^k*p.y)=rhs g k from rfl,Eo];(repeat' ((first|(apply AG<;>intro hc<;>try omega)|(apply AZ;omega)|apply AE)<;>conv=>whnf))
    exact BM [] (kh (k+1) false (by omega) ⟨by omega,by simp⟩)
   ·have En:C0 (RR.take k) n=C0 (RR.take (k+1)) n:=by rw[zT (by omega),zT (by omega)]
    rw[En];(repeat' ((first|(apply AG<;>intro hc<;>try omega)|(apply AZ;omega)|apply AE)<;>conv=>whnf))
    exact BM [] (kh (k+1) false (by omega) ⟨by omega,by simp⟩)
 ·have ek:k=NN:=by omega
  clear kh;cases fl
  ·have Da:=dK g n
   have Jm : ∀ i,i<n->(GR g n)[i]? = some ((List.range n).map λ j=>bz g (i+j)):=λ i hi=>by simp [GR,hi]
   generalize GR g n=A at *;rw[ek,zT (by omega),JY On,show C0 (RR.take NN) n=C0 RR n by rw[zT (by omega)],JY zd];(repeat' ((first|(apply AG<;>intro hc<;>try omega)|apply AE)<;>conv=>whnf))
   unfold C1;refine ⟨⟨by omega,by omega,by simp only[EK];omega,by omega⟩,?_⟩;rw[Int.toNat_natCast];(conv=>whnf)
   skip
   refine EI (λ i=>n-i) (λ(i:Nat)=>i<=n) (λ i=>[(101,.int .i64 i)]) (λ i=>[(99,99,.mx (mz A n i))]) [] [] 0 (by first|exact (by (conv=>whnf);exact ⟨rfl,rfl,rfl⟩)|(rw[<-sI A];exact (by (conv=>whnf);exact ⟨rfl,rfl,rfl⟩))) (by omega) ?_;intro i p1 ih;have hzl:=sG (Q:=A) p1;by_cases hi:i<n
   ·have g8:=sH (Jm i hi) hi
    have nk:=AfP Da hi;have jn:((List.range n).map λ j=>bz g (i+j)).length=n:=by simp
    have Ly : ∀ j,j<n->((List.range n).map λ j=>bz g (i+j))[j]? = some (bz g (i+j)):=λ j hj=>by simp [hj]
    generalize ((List.range n).map λ j=>bz g (i+j))=row at *;generalize mz A n i=R0 at *;(repeat' ((first|(apply AG<;>intro hc<;>try omega)|apply AE)<;>conv=>whnf))
    refine EI (λ j=>n-j) (λ(j:Nat)=>j<=n) (λ j=>[(105,.int .i64 j)]) (λ j=>[(99,99,.mx (R0.set i (Y6 (row.take j))))]) [] [] 0 (by first|exact (by (conv=>whnf);exact ⟨rfl,rfl,rfl⟩)|(rw[List.take_zero,sY,VV nk];exact (by (conv=>whnf);exact ⟨rfl,rfl,rfl⟩))) (by omega) ?_;intro j p2 jh;have Du:(row.take j).length=j:=by rw[List.length_take];omega
    by_cases hj:j<n
    ·have hMv:=Ax (i+j) (by omega)
     have Et:MM[((i:Int)+(j:Int)).toNat]? = some (bz g (i+j)):=by rw[show ((i:Int)+(j:Int)).toNat=i+j by omega];exact hMv
     have Dv:=FU (Ly j hj);have Mr:(row.take (j+1)).length=j+1:=by rw[List.length_take];omega
     generalize bz g (i+j)=v0 at *;generalize yw:row.take j=M0 at *;(repeat' ((first|(apply AG<;>intro hc<;>try omega)|(apply AY;omega)|apply AE)<;>conv=>whnf))
     by_cases Ia:j=0
     ·subst Ia
      rw[List.take_zero]at yw;subst yw;rw[sY,VV nk];refine zF (r:=none) (by rw[Nat.zero_add,Int.toNat_natCast];exact nk) ?_;(conv=>whnf)
      (repeat' ((first|(apply AY;omega)|(apply AZ;omega)|(refine E9 ?_ (λ_=>rfl) (λ v hv => ?_);omega)|apply E5)<;>conv=>whnf))
      cases Et.symm.trans hv;refine WI (enc:=eQ) v0 rfl rfl (by omega) ?_;(conv=>whnf)
      (repeat' ((first|(apply AY;omega)|fail)<;>conv=>whnf))
      refine AY rfl ?_;refine W2 (i:=i) (by omega) (by omega) ?_;(conv=>whnf)
      (repeat' ((first|(apply AZ;omega)|fail)<;>conv=>whnf))
      have hq:(some (3,[v0].map eQ):Option (Nat × List (List AV)))=Y6 (row.take (0+1)):=by rw[Dv];exact (Y7 (by simp)).symm
      rw[hq];exact BM [] (jh (0+1) (by omega) (by omega))
     ·rw[Y7 (by omega)]
      refine SF (by omega) (by omega) ?_;(conv=>whnf)
      (repeat' ((first|(apply AY;omega)|(apply AZ;omega)|(refine E9 ?_ (λ_=>rfl) (λ v hv => ?_);omega)|apply E5)<;>conv=>whnf))
      cases Et.symm.trans hv;refine PN (by omega) (by omega) ?_;(conv=>whnf)
      refine FP (enc:=eQ) v0 rfl (by rw[List.length_map]) rfl (by omega) (by omega) ?_;intro s' v;rw[<-Dv,Mr];(conv=>whnf)
      (repeat' ((first|(apply AY;omega)|fail)<;>conv=>whnf))
      refine AY ⟨rfl,by rw[List.length_map];omega⟩ ?_;refine W2 (i:=i) (by omega) (by rw[List.length_set,List.length_set];omega) ?_;rw[show 0+((i:Int)).toNat=i by omega,List.set_set,List.set_set,<-Y7 (by omega)];(conv=>whnf)
      (repeat' ((first|(apply AZ;omega)|fail)<;>conv=>whnf))
      exact BM [] (jh (j+1) (by omega) (by omega))
    have ej:j=n:=by omega
    clear jh;rw[ej,zT (by omega),Y7 (by omega),g8];(repeat' ((first|(apply AG<;>intro hc<;>try omega)|(apply AZ;omega)|apply AE)<;>conv=>whnf))
    exact BM [] (ih (i+1) (by omega) (by omega))
   have ei:i=n:=by omega
   clear ih;rw[ei,sF Da];(repeat' ((first|(apply AG<;>intro hc<;>try omega)|apply AE)<;>conv=>whnf))
   refine QS (λ_=>rfl) rfl (by omega) ?_;(conv=>whnf)
   refine EE (enc:=eQ) (λ_=>rfl) rfl zd.symm ?_;(conv=>whnf)
   exact AX rfl (by
    simp only[A2,B8,and_true,true_and];exact ⟨kX A,IZ RR⟩)
  ·have Ib:k=0:=by simpa using k2.symm
   omega
theorem tH (s:Rat) : ∀ (c:List Rat) (f:Rat) (k:Nat) (z:Rat),c[k]? = some z->(GI s c f)[k]? = some (z*(f*s^k))
 | [],_,_,_,h=>by simp at h
 | a::c,f,0,z,h=>by
  obtain rfl:a=z:=by simpa using h
  rw[GI,Rat.pow_zero,Rat.mul_one];rfl
 | a::c,f,k+1,z,h=>by
  have:=tH s c (f*s) k z (by simpa using h)
  rw[GI,List.getElem?_cons_succ,this,Rat.pow_succ];congr 1;grind
theorem gS {n:Nat} (h:1<=n/\n<=6):n=1\/n=2\/n=3\/n=4\/n=5\/n=6:=by omega
theorem jK {n:Nat} (h:1<=n/\n<=6) (k:Nat):KI n k<=63*k+78:=by
 rcases gS h with rfl|rfl|rfl|rfl|rfl|rfl<;>simp only[KI]<;>omega
theorem Tb {n k:Nat} (h:1<=n/\n<=6) (hk:k<=10000):6^n*k<=1000000000000/\3*(6^n*k)+n*(2*(6^n*k)+2*KI n k+1)<=1000000000000:=by
 have h1:=jK h k;generalize KI n k=K at *;rcases gS h with rfl|rfl|rfl|rfl|rfl|rfl<;>omega
theorem Wh.int {k:Nat} {x:Rat} (h:Wh k x) : ∃ z:Int,x=(z:Rat):=by
 obtain ⟨z,e,_⟩:=h;exact ⟨z,e⟩
theorem gO {M k m:Nat} {l:List Rat} (hM:1<=M) (hm:M<=2^m) (h : ∀ x∈l,Wh k ((M:Rat)*x)) (i:Nat):Bt m (BI (l.take i)) :=
 (ZP hM hm λ x hx=>h x (List.mem_of_mem_take hx)).1.bt
theorem nQ (N:j8 L) (q:Bool) (gw:List BC) (g:List Pt) (lz:gw.map BC.v=g) (d B KP kx kw ky KW:Nat) (xj:1<=gw.length/\gw.length<=12) (hf : ∀ p∈gw,p.Fit B) (hB:B<=1000000) (hval:FX g)
  (hPx : ∀ i,Bt KP (BI ((g.map (·.x)).take i))) (hPy : ∀ i,Bt KP (BI ((g.map (·.y)).take i))) (hPw : ∀ i,Bt KP (BI ((g.map (·.w)).take i))) (hKP:KP<=1000)
  (Iv:Wh KP (BI (g.map (·.x)))) (sym:Wh KP (BI (g.map (·.y)))) (px:0<BI (g.map (·.x))) (pw:0<BI (g.map (·.w))) (hS:NZ kx kw ky (E4 g)) (hKW:kw+10*kx+12<=KW) (Jo:kw+5*kx+12+ky<=KW) (Jp:KW<=10000) (Dj:ky<=10000) (hd:d<=5) (lv:d+1<=gw.length) :
  ∃ c:List Rat,c.length=d+1/\KF g (d+1) c/\Bs (126*KW+156+7*KP) c/\Ev L 266 [.sl q (gw.map EC),.int .i64 d] (.e6 [.sl false ((CP c).map eQ),.agg (eQ (EV g (CP c))),.int .i64 0]):=by
 have hV:=PY N q gw B (by omega) hf true (by rw[lz];simp [hval]);have Pa:=Zl N q gw B KP xj hf hB (by omega) (by rw[lz];exact hPx) (by rw[lz];exact hPy) (by rw[lz];exact hPw);rw[lz]at Pa;have Ft:g.length=gw.length:=by rw[<-lz,List.length_map]
 have Ik:(E4 g).length=g.length:=by simp [E4]
 have Od:=Adk N (E4 g) (BI (g.map (·.x))) (BI (g.map (·.y))) (d+1) kx kw ky KW hS (by omega) (by omega) (by omega) (by omega) (by omega);have cn:=pS hS.ok (n:=d+1) (by omega);have ma:=Aeh hS (by omega) (n:=d+1) (by omega) (k:=KW) (by omega);have yb:=AgB hS (by omega) (n:=d+1) (by omega) (k:=KW) (by omega);obtain ⟨bd1,bd2⟩:=Tb (n:=d+1) (k:=KW) (by omega) Jp;have bd3:=jK (n:=d+1) (by omega) KW;have lq:=dK (E4 g) (d+1);have im:=pT (E4 g) (d+1);have jg:(GT (E4 g) (d+1)).length=d+1:=by simp [GT]
 have bn : ∀ c:List Rat,c.length=d+1->(∀ (i:Nat) (r:List Rat) (s:Rat),(GR (E4 g) (d+1))[i]? = some r->(GT (E4 g) (d+1))[i]? = some s->A6 r c=s)->KF (E4 g) (d+1) c:=λ c hc h=>tF hc h
 have Gj : ∀ c:List Rat,KF (E4 g) (d+1) c->KF g (d+1) (GI (BI (g.map (·.x))) c (1/BI (g.map (·.y)))):=λ c h=>Af2 (λ e=>by rw[e]at px;exact absurd px (Rat.lt_irrefl)) (gN _) (λ e=>by rw[e]at pw;exact absurd pw (Rat.lt_irrefl)) h
 have ki:=gN (g.map (·.y));generalize GR (E4 g) (d+1)=A at *;generalize GT (E4 g) (d+1)=b at *;generalize BI (g.map (·.x))=sx at *;generalize BI (g.map (·.y))=sy at *;have Ji:Ms KW A:=λ r hr x hx=>(ma r hr x hx).bt
 have nf:Bs KW b:=λ x hx=>(yb x hx).bt
 have zq : ∀ r∈DW A (b.map λ x=>[x]),∀ x∈r,Wh KW x:=λ r hr x hx=>by
  obtain ⟨i,hi⟩:=List.getElem?_of_mem hr;have w5:=(zS hi).1;simp only[DW,List.length_zipWith,List.length_map]at w5;obtain ⟨u,hu⟩ : ∃ x,A[i]? = some x:=⟨_,zE (by omega)⟩;obtain ⟨v,hv⟩ : ∃ x,b[i]? = some x:=⟨_,zE (by omega)⟩;obtain rfl:=Option.some.inj ((U9 hu (fO hv)).symm.trans hi);rcases List.mem_append.1 hx with hx|hx
  ·exact ma u (zM hu) x hx
  ·obtain rfl:=List.mem_singleton.1 hx
   exact yb _ (zM hv)
 have bp : ∀ c0,c0<1 -> ∀ X:List Rat,(∀ (i:Nat) (r s:List Rat),A[i]? = some r->(b.map λ x=>[x])[i]? = some s->A6 r X=s.getD c0 0) -> ∀ (i:Nat) (r:List Rat) (s:Rat),A[i]? = some r->b[i]? = some s->A6 r X=s:=λ c0 h0 X hs i r s h1 h2=>by
  have:=hs i r [s] h1 (fO h2)
  rwa [show c0=0 by omega]at this
 obtain ⟨v,Hn,Ka⟩:=Xb N.too4 false false false A b (d+1) KW KW lq im jg (by omega) (Nat.le_refl _) (by omega) Ji nf (λ r hr j=>by
  rw[gM λ x hx=>(zq r hr x (List.mem_of_mem_take hx)).int];exact Bt.one _) (by
  rw[AhK λ r hr x hx=>(zq r hr x hx).int];exact λ r hr x hx=>(zq r hr x hx).bt) bd1 (SG.Nq (λ cn c0 bh X hX hs=>Ahc lq im jg ma yb cn hX (λ i r s h1 h2=>bp c0 bh X hs i r s h1 h2)) bd2 (by omega))
 rcases Ka with ⟨h,_⟩|⟨_,c,rfl,m5,Kq,gj⟩
 ·exact absurd cn h
 have jd:Bs (126*KW+156) c:=λ x hx=>(Kq x hx).le (by omega)
 have ho:=Gj c (bn c m5 gj);have js:=tK sx c (1/sy);have pc:=tH sx c (1/sy);have Dg : ∀ k,k<=6->Bt (7*KP) (1/sy*sx^k):=λ k hk=>by
  have h1:Bt (0+KP) (1/sy):=(Bt.one 0).ik sym.bt;have h2:=(Iv.pow k).bt;have h3:=S5 KP hk;exact (h1.mul h2).le (by omega)
 have Js:Bs (126*KW+156+7*KP) (GI sx c (1/sy)):=λ x hx=>by
  obtain ⟨k,hk⟩:=List.getElem?_of_mem hx;have od:=(zS hk).1;obtain ⟨z,hz⟩ : ∃ z,c[k]? = some z:=⟨_,zE (by omega)⟩;obtain rfl:=Option.some.inj ((pc k z hz).symm.trans hk);exact ((jd.at hz).mul (Dg k (by omega))).le (by omega)
 refine ⟨GI sx c (1/sy),by omega,ho,Js,?_⟩;have Ez:=λ q=>Zu N.todz q (GI sx c (1/sy)) (126*KW+156+7*KP) Js (by omega) (by omega)
 have Oe:=λ q2=>(nW N q q2 gw (wR (CP (GI sx c (1/sy)))) B (126*KW+156+7*KP) (by omega) hf (by rw[wR,List.length_map,R4];have:=OY (GI sx c (1/sy)) (GI sx c (1/sy)).length;omega) (λ w hw=>by
  obtain ⟨y,hy,rfl⟩:=List.mem_map.1 hw;exact FL (Js.trim y hy) (by omega)) hB (by omega)).1 (by rw[lz];exact hval)
 rw[ST,QJ,lz]at Oe;have hI:=O2 N.toa4 1 (by omega);have hDv:=SV N.toa4 (Bt.one 1) sym.bt (by omega) (by omega) ki;have Fp:(1:Rat)/sy=1/sy*sx^0:=by rw[Rat.pow_zero,Rat.mul_one]
 generalize GI sx c (1/sy)=P at *;rw[Int.natCast_add]at Od;refine Ev.x N.G5 rfl rfl ?_;(repeat' ((first|(apply AG<;>intro hc<;>try omega)|(apply AZ;omega)|apply AU|apply AE|refine AD (hV) ?_|refine AD (Pa) ?_|refine AD (Od) ?_|refine AD (Hn) ?_)<;>conv=>whnf))
 refine EJ (enc:=eO) none (d+1) rfl (by omega) (by omega) ?_;(conv=>whnf)
 (repeat' ((first|(apply AZ;omega)|refine AD (hI) ?_|refine AD (hDv) ?_)<;>conv=>whnf))
 rw[Fp];refine EI (λ k=>d+1-k) (λ(k:Nat)=>k<=d+1) (λ k=>[(66,.int .i64 k)]) (λ k=>[(56,56,.rw 3 ((C0 (P.take k) (d+1)).map eO)),(13,13,.bx (eQ (1/sy*sx^k)))]) [] [] 0 (by first|exact (by (conv=>whnf);exact ⟨rfl,rfl,rfl⟩)|(rw[List.take_zero,<-JZ];exact (by (conv=>whnf);exact ⟨rfl,rfl,rfl⟩))) (by omega) ?_;intro k k1 kh;have Dk:=HT (l:=P.take k) (m:=d+1) (by rw[List.length_take];omega);by_cases hk:k<d+1
 ·obtain ⟨z,hz⟩ : ∃ z,c[k]? = some z:=⟨_,zE (by omega)⟩
  have Qq:c[(k:Int).toNat]? = some z:=hz;have Ju:=pc k z hz;have Pm:=Dg k (by omega);have bg:=G3 N.toa4 (jd.at hz) Pm (by omega) (by omega);have y8:=G3 N.toa4 Pm Iv.bt (by omega) (by omega);have g8:=IH (l:=P.take k) (m:=d+1) (x:=z*(1/sy*sx^k)) (by rw[List.length_take];omega);rw[List.length_take,Nat.min_eq_left (by omega),<-HK Ju]at g8;rw[show 1/sy*sx^k*sx=1/sy*sx^(k+1) by rw[Rat.pow_succ,Rat.mul_assoc]]at y8;generalize C0 (P.take k) (d+1)=F0 at *;generalize rj:1/sy*sx^(k+1)=f1 at y8;generalize 1/sy*sx^k=f0 at *;generalize z*f0=zf at *;(repeat' ((first|(apply AG<;>intro hc<;>try omega)|(apply AY;omega)|(refine BA (by assumption) ?_ rfl ?_;omega)|apply AE|refine AD (bg) ?_)<;>conv=>whnf))
  refine ET (enc:=eO) (some zf) rfl (λ e=>by cases e<;>rfl) (by omega) ?_;(conv=>whnf)
  rw[g8];(repeat' ((first|(apply AZ;omega)|refine AD (y8) ?_)<;>conv=>whnf))
  subst rj;exact BM [] (kh (k+1) (by omega) (by omega))
 have ek:k=d+1:=by omega
 clear kh;have xd:P.length=d+1:=by omega
 rw[ek,zT (by omega),JY xd];(repeat' ((first|(apply AG<;>intro hc<;>try omega)|apply AE)<;>conv=>whnf))
 refine EE (enc:=eQ) (λ_=>rfl) rfl (by omega) ?_;(conv=>whnf)
 (repeat' ((first|refine AD (Ez _) ?_|refine AD (Oe _) ?_)<;>conv=>whnf))
 exact AX rfl (by
  simp only[A2,B8,and_true,true_and];exact ⟨IZ _,⟨B5 _,B5 _⟩⟩)
theorem nR (N:j8 L) (q:Bool) (gw:List BC) (B:Nat) (hl:gw.length<=12) (hf : ∀ p∈gw,p.Fit B) (z:Int) (hz:FQ z) :
  (¬ FX (gw.map BC.v)->Ev L 266 [.sl q (gw.map EC),.int .i64 z] (.e6 [.sl false [],.agg (rQ false false false [] []),.int .i64 2])) /\
  (FX (gw.map BC.v)->z<0\/51<z->Ev L 266 [.sl q (gw.map EC),.int .i64 z] (.e6 [.sl false [],.agg (rQ false false false [] []),.int .i64 12])) /\
  (FX (gw.map BC.v)->0<=z/\z<=51->(gw.length:Int)<z+1->Ev L 266 [.sl q (gw.map EC),.int .i64 z] (.e6 [.sl false [],.agg (rQ false false false [] []),.int .i64 11])):=by
 obtain ⟨z1,z2⟩:=hz;refine ⟨λ h => ?_,λ h h2 => ?_,λ h h2 h3 => ?_⟩
 ·have hV:=PY N q gw B hl hf false (by simp [h])
  refine Ev.x N.G5 rfl rfl ?_;(repeat' ((first|apply AE|refine AD (hV) ?_)<;>conv=>whnf))
  exact AX rfl (by simp [A2,B8,EZ])
 ·have hV:=PY N q gw B hl hf true (by simp [h])
  refine Ev.x N.G5 rfl rfl ?_;rcases h2 with h2|h2
  all_goals
   (repeat' ((first|(apply AG<;>intro hc<;>try omega)|apply AE|refine AD (hV) ?_)<;>conv=>whnf))
   exact AX rfl (by simp [A2,B8,EZ])
 ·have hV:=PY N q gw B hl hf true (by simp [h])
  refine Ev.x N.G5 rfl rfl ?_;(repeat' ((first|(apply AG<;>intro hc<;>try omega)|(apply AZ;omega)|apply AU|apply AE|refine AD (hV) ?_)<;>conv=>whnf))
  exact AX rfl (by simp [A2,B8,EZ])
theorem FX.ok {g:List Pt} (h:FX g):SD g:=by
 have g9 : ∀ (d i:Nat) (p q:Pt),g[i]? = some p->g[i+(d+1)]? = some q->p.x<q.x:=λ d=>by
  induction d with
  | zero=>exact λ i p q h1 h2=>((h.2 (i+1)) q h2).2 p (by omega) (by rw[Nat.add_sub_cancel];exact h1)
  | succ d ih =>
   intro i p q h1 h2;obtain ⟨r,hr⟩ : ∃ r,g[i+(d+1)]? = some r:=⟨_,zE (by have:=(zS h2).1;omega)⟩;have h3:=ih i p r h1 hr;have h4:=((h.2 (i+(d+1+1))) q h2).2 r (by omega) (by rw[show i+(d+1+1)-1=i+(d+1) by omega];exact hr);grind
 refine ⟨?_,λ p hp => ?_⟩
 ·rw[List.pairwise_map,List.pairwise_iff_getElem]
  intro i j hi hj qt e;have:=g9 (j-i-1) i g[i] g[j] (zE hi) (by rw[show i+(j-i-1+1)=j by omega];exact zE hj)
  rw[e]at this;exact absurd this (Rat.lt_irrefl)
 ·obtain ⟨i,hi⟩:=List.getElem?_of_mem hp
  exact ((h.2 i) p hi).1
theorem IW.val {M ky:Nat} {g:List Pt} (h:IW M ky g):FX g:=by
 refine ⟨h.len.1,λ j p hp=>⟨h.pos p (zM hp),λ p0 h0 cq => ?_⟩⟩;have g9:=h.lt;rw[List.pairwise_map,List.pairwise_iff_getElem]at g9;obtain ⟨g1,rfl⟩:=zS hp;obtain ⟨g2,rfl⟩:=zS cq;exact g9 (j-1) j g2 g1 (by omega)
theorem cI (N:j8 L) (q:Bool) (g:List Pt) (d M ky m:Nat) (hg:IW M ky g) (hM:1<=M) (hm:M<=2^m) (dv:m<=100) (Dj:ky<=50) (hd:d<=5) :
  (g.length<d+1->Ev L 266 [.sl q (g.map eP),.int .i64 d] (.e6 [.sl false [],.agg (rQ false false false [] []),.int .i64 11])) /\
  (d+1<=g.length -> ∃ c:List Rat,c.length=d+1/\KF g (d+1) c/\Bs 20000 c/\Ev L 266 [.sl q (g.map eP),.int .i64 d] (.e6 [.sl false ((CP c).map eQ),.agg (eQ (EV g (CP c))),.int .i64 0])):=by
 have xj:=hg.len;have Ft:(g.map L6).length=g.length:=List.length_map ..;have hf : ∀ p∈g.map L6,p.Fit 400:=λ p hp=>by
  obtain ⟨r,hr,rfl⟩:=List.mem_map.1 hp;exact ⟨FL ((hg.bx hr).le (by omega)) (by omega),FL ((Bt.ja hM hm (hg.wy r hr)).le (by omega)) (by omega),FL ((hg.bw hr).le (by omega)) (by omega)⟩
 constructor
 ·intro g9
  have:=(nR N q (g.map L6) 400 (by omega) hf d ⟨by omega,by omega⟩).2.2 (by rw[wY];exact hg.val) (by omega) (by omega)
  rw[cC]at this;exact this
 ·intro lv
  obtain ⟨Iv,sym,sw4,px,pw,hS⟩:=hg.scl hM hm;obtain ⟨c,h1,h2,h3,h4⟩:=nQ N q (g.map L6) g (wY g) d 400 100 6 7 ky 100 (by omega) hf (by omega) hg.val (λ i=>(gO (M:=12) (m:=4) (k:=6) (by omega) (by decide) (λ x hx=>by
   obtain ⟨p,hp,rfl⟩:=List.mem_map.1 hx;exact hg.wx p hp) i).le (by omega)) (λ i=>(gO hM hm (k:=ky) (λ x hx=>by
   obtain ⟨p,hp,rfl⟩:=List.mem_map.1 hx;exact hg.wy p hp) i).le (by omega)) (λ i=>(gO (M:=12) (m:=4) (k:=7) (by omega) (by decide) (λ x hx=>by
   obtain ⟨p,hp,rfl⟩:=List.mem_map.1 hx;exact hg.ww p hp) i).le (by omega)) (by omega) (Iv.le (by omega)) (sym.le dv) px pw hS (by omega) (by omega) (by omega) (by omega) hd (by omega)
  rw[cC]at h4;exact ⟨c,h1,h2,λ x hx=>(h3 x hx).le (by omega),h4⟩
def gA:List Pt:=[⟨((0:Int):Rat),((0:Int):Rat),((1:Int):Rat)⟩,⟨((1:Int):Rat),((2:Int):Rat),((1:Int):Rat)⟩]
theorem TY {M:Nat} {k:Nat} (z:Int) (h:((M:Int)*z).natAbs<=2^k):Wh k ((M:Rat)*(z:Rat)):=⟨(M:Int)*z,by rw[Rat.intCast_mul,Rat.intCast_natCast],h⟩
theorem O4:IW 840 14 gA:=by
 have all : ∀ {P:Pt->Prop},P ⟨((0:Int):Rat),((0:Int):Rat),((1:Int):Rat)⟩->P ⟨((1:Int):Rat),((2:Int):Rat),((1:Int):Rat)⟩ -> ∀ p∈gA,P p:=λ h1 h2 p hp=>by
  simp only[gA,List.mem_cons,List.not_mem_nil,or_false]at hp;rcases hp with rfl|rfl
  ·exact h1
  ·exact h2
 refine ⟨by simp [gA],?_,all ?_ ?_,all (TY 0 (by decide)) (TY 1 (by decide)),all (TY 1 (by decide)) (TY 1 (by decide)),all (TY 0 (by decide)) (TY 2 (by decide))⟩
 ·simp only[gA,List.map_cons,List.map_nil,List.pairwise_cons,List.mem_singleton,List.Pairwise.nil,and_true,List.not_mem_nil,false_implies,implies_true]
  rintro _ rfl
  exact Rat.intCast_lt_intCast.2 (by decide)
 ·exact Rat.intCast_pos.2 (by decide)
 ·exact Rat.intCast_pos.2 (by decide)
theorem AhB {α:Type} {l:List α} (h:l.length=2) : ∃ a b,l=[a,b]:=by
 match l,h with
 | [a,b],_=>exact ⟨a,b,rfl⟩
theorem UF {z:Int} (h:z.natAbs<=8):Bt 3 (z:Rat):=Bt.ofInt h
theorem AfZ {α:Type} {l:List α} (h:l.length=1) : ∃ a,l=[a]:=by
 match l,h with
 | [a],_=>exact ⟨a,rfl⟩
theorem wS {p:List Rat} {x:Rat} (h:x≠0):CP (p++[x])=p++[x]:=by
 have hc:C8 (p++[x]) (p++[x]).length=(p++[x]).length:=by
  rw[List.length_append,List.length_singleton,C8,if_neg];rw[List.getD_eq_getElem?_getD,List.getElem?_append_right (Nat.le_refl _),Nat.sub_self];exact h
 rw[CP,hc,List.take_length]
theorem Uy (N:j8 L) (q:Bool):Ev L 266 [.sl q (gA.map eP),.int .i64 0] (.e6 [.sl false ([((1:Int):Rat)].map eQ),.agg (eQ ((2:Int):Rat)),.int .i64 0]):=by
 obtain ⟨c,h1,h2,_,h3⟩:=(cI N q gA 0 840 14 10 O4 (by omega) (by decide) (by omega) (by omega) (by omega)).2 (by simp [gA]);obtain ⟨a,rfl⟩:=AfZ h1;have e0:=h2 0 (by omega);simp only[gA,GL,BF,Rat.pow_zero]at e0;have ha:a=((1:Int):Rat):=by
  simp only[BO,List.foldl_nil]at e0;grind
 subst ha;have ht:CP [((1:Int):Rat)]=[((1:Int):Rat)]:=wS (p:=[]) (by decide);have he:EV gA [((1:Int):Rat)]=((2:Int):Rat):=by
  simp only[EV,gA,GL,BF,BO,List.foldl_nil];grind
 rw[ht,he]at h3;exact h3
theorem Uz (N:j8 L) (q:Bool):Ev L 266 [.sl q (gA.map eP),.int .i64 1] (.e6 [.sl false ([((0:Int):Rat),((2:Int):Rat)].map eQ),.agg (eQ ((0:Int):Rat)),.int .i64 0]):=by
 obtain ⟨c,h1,h2,_,h3⟩:=(cI N q gA 1 840 14 10 O4 (by omega) (by decide) (by omega) (by omega) (by omega)).2 (by simp [gA]);obtain ⟨a,b,rfl⟩:=AhB h1;have e0:=h2 0 (by omega);have e1:=h2 1 (by omega);simp only[gA,GL,BF,Rat.pow_zero]at e0;simp only[gA,GL,BF,show ∀ x:Rat,x^1=x from λ x=>by rw[Rat.pow_succ,Rat.pow_zero,Rat.one_mul]]at e1;simp only[BO,List.foldl_nil]at e0 e1;have ha:a=((0:Int):Rat):=by grind
 have hb:b=((2:Int):Rat):=by grind
 subst ha hb;have ht:CP [((0:Int):Rat),((2:Int):Rat)]=[((0:Int):Rat),((2:Int):Rat)]:=wS (p:=[((0:Int):Rat)]) (by decide);have he:EV gA [((0:Int):Rat),((2:Int):Rat)]=((0:Int):Rat):=by
  simp only[EV,gA,GL,BF,BO,List.foldl_nil];grind
 rw[ht,he]at h3;exact h3
theorem Va (N:j8 L) (q:Bool):Ev L 266 [.sl q (gA.map eP),.int .i64 2] (.e6 [.sl false [],.agg (rQ false false false [] []),.int .i64 11]) :=
 (cI N q gA 2 840 14 10 O4 (by omega) (by decide) (by omega) (by omega) (by omega)).1 (by simp [gA])
theorem Xd (N:ib L):Ev L 269 [] (.bool true):=by
 have hO:=λ(z:Int) (h : -9223372036854775808<=z/\z<=9223372036854775807)=>UX N.toa5 z h
 have h0:=λ q=>Uy N.toj8 q
 have h1:=λ q=>Uz N.toj8 q
 have h2:=λ q=>Va N.toj8 q
 have hE1:=λ q1 q2=>X9 N.tov5 q1 q2 [((1:Int):Rat)] 3 (λ x hx=>by
  obtain rfl:=List.mem_singleton.1 hx;exact UF (by decide)) (by omega) (by simp)
 have Jk:=λ q1 q2=>X9 N.tov5 q1 q2 [((0:Int):Rat),((2:Int):Rat)] 3 (λ x hx=>by
  simp only[List.mem_cons,List.not_mem_nil,or_false]at hx;rcases hx with rfl|rfl
  ·exact UF (by decide)
  ·exact UF (by decide)) (by omega) (by simp)
 have Jz:=cV N.toe7 (UF (z:=2) (by decide)) (by omega);have Az:=cV N.toe7 (UF (z:=0) (by decide)) (by omega);have hV:=λ q=>Adl N.toj8 q gA 400 ⟨O4.len,O4.lt,O4.pos,λ p hp=>(O4.bx hp).le (by omega),λ p hp=>(Bt.ja (m:=10) (by omega) (by decide) (O4.wy p hp)).le (by omega),λ p hp=>(O4.bw hp).le (by omega)⟩ (by omega)
 refine Ev.x N.K2 rfl rfl ?_;(repeat' ((first|refine PR rfl rfl ?_|apply AE|refine AD (hO 0 (by omega)) ?_|refine AD (hO 1 (by omega)) ?_|refine AD (hO 2 (by omega)) ?_)<;>conv=>whnf))
 (repeat' ((first|(apply AG<;>intro hc<;>try omega)|refine PR rfl rfl ?_|refine AD (h0 _) ?_|refine AD (h1 _) ?_|refine AD (h2 _) ?_)<;>conv=>whnf))
 (repeat' ((first|refine HM rfl ?_|refine PR rfl rfl ?_|refine AD (hE1 _ _) ?_|refine AD (Jk _ _) ?_|refine AD (Jz) ?_|refine AD (Az) ?_|refine AD (hV _) ?_|refine AD (hO 0 (by omega)) ?_|refine AD (hO 1 (by omega)) ?_|refine AD (hO 2 (by omega)) ?_)<;>conv=>whnf))
 exact DM rfl
end Go.b8

namespace Go.b8
open F
attribute [local irreducible] AA AF AQ AC CI AW A5 A9 B4 B3 CE DE BX A3 BW CD AB A4 AJ pw BV BN CS CR C1 CY CT BL DD
attribute [local irreducible] yS
variable {L:Lib}
set_option maxHeartbeats 16000000
set_option maxRecDepth 8000
end Go.b8

namespace Go.b8
open F
attribute [local irreducible] AA AF AQ AC CI AW A5 A9 B4 B3 CE DE BX A3 BW CD AB A4 AJ pw BV BN CS CR C1 CY CT BL DD
variable {L:Lib} {b a:List Int} {d c:Wd}
set_option maxHeartbeats 16000000
end Go.b8

namespace Go.b8
open F
attribute [local irreducible] AA AF AQ AC CI AW A5 A9 B4 B3 CE DE BX A3 BW CD AB A4 AJ pw BV BN CS CR C1 CY CT BL DD
variable {L:Lib} {d c:Wd} {p:List Int}
set_option maxHeartbeats 1000000
end Go.b8

namespace Go.b8
open F
attribute [local irreducible] AA AF AQ AC CI AW A5 A9 B4 B3 CE DE BX A3 BW CD AB A4 AJ pw BV BN CS CR C1 CY CT BL DD
set_option maxHeartbeats 8000000
variable {L:Lib}
section
variable {b a:List Int} {d c:Wd}
end
end Go.b8

namespace Go.b8
open F
attribute [local irreducible] AA AF AQ AC CI AW A5 A9 B4 B3 CE DE BX A3 BW CD AB A4 AJ pw BV BN CS CR C1 CY CT BL DD
set_option maxHeartbeats 8000000
set_option maxRecDepth 8000
variable {L:Lib}
section
variable {b a:List Int} {d c:Wd}
end
end Go.b8

namespace Go.b8
open F
attribute [local irreducible] AA AF AQ AC CI AW A5 A9 B4 B3 CE DE BX A3 BW CD AB A4 AJ pw BV BN CS CR C1 CY CT BL DD
variable {L:Lib}
set_option maxHeartbeats 8000000
set_option maxRecDepth 8000
end Go.b8

namespace Go.b8
set_option maxHeartbeats 2000000
end Go.b8
