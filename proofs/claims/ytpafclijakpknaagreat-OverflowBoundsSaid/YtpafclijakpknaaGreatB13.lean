/-
  Bounds (layer 29): levels, rows, a bound at an input.
-/
import Derived.Test.YtpafclijakpknaaGreatB12
import Derived.Test.YtpafclijakpknaaGreatB11
import Derived.Test.YtpafclijakpknaaGreatB10
import Derived.Test.YtpafclijakpknaaGreatB2
set_option linter.unusedSimpArgs false
set_option linter.unusedVariables false
set_option linter.unnecessarySimpa false
namespace Go.c9
open F
attribute [local irreducible] A0 B0 D8 BK IH DY FC E1 HI F9 IA LT GS EF HH H4 BD EU B9 pw IO H0 JM KX J9 GV IJ GT JW
variable {L:Lib}
set_option maxHeartbeats 8000000
set_option maxRecDepth 8000
theorem Vg (I:e8 L) (N:s8 L) (n:Nt) (hn:IU n):Ev L 349 [.agg (HV n)] (.bool true):=by
 have hV:=AjV n I N.toff;rw[hn.jb]at hV;have:=hn.st
 refine Ev.x N.iV rfl rfl ?_;(repeat' ((first|(apply B6<;>intro hc<;>try omega)|apply BL|refine BF (hV) ?_)<;>conv=>whnf))
 exact M9 rfl
theorem AeL (N:s8 L) (a b:Rat) (v:Int) (k:Nat) (ha:Bt k a) (hb:Bt k b) (hk:k<=1000000000000) (hv:v.natAbs<=2^24):Ev L 353 [.agg (eQ a++eQ b),.int .i64 v] (.agg (eQ (a*(v:Rat)+b))):=by
 have hO:=PW N.toa7 v (by have:(2:Nat)^24=16777216:=rfl;omega);have hM:=XT N.toa7 ha (Bt.ofInt hv) (by omega) (by omega);have hA:=YT N.toa7 (ha.mul (Bt.ofInt hv)) hb (by omega) (by omega);refine Ev.x N.gT rfl rfl ?_;(repeat' ((first|apply BL|refine BF (hO) ?_|refine BF (hM) ?_|refine BF (hA) ?_)<;>conv=>whnf))
 exact DH rfl (JB _)
def L6 (C:List (List Rat)) (v:Nat):List Rat:=C.map λ c=>c.getD v 0
theorem Aj0 (N:s8 L) (q q':Bool) (C:List (List Rat)) (v:Nat) (hl:C.length<=1000000) (hv : ∀ c∈C,v<c.length):Ev L 352 [.sl q (S1 q' C),.int .i64 (v:Int)] (.sl false ((L6 C v).map eQ)):=by
 refine Ev.x N.iO rfl rfl ?_;(repeat' ((first|apply C9|apply BL)<;>conv=>whnf))
 refine K9 (enc:=eO) none C.length rfl rfl (by omega) ?_;(conv=>whnf)
 (repeat' (apply C9<;>conv=>whnf))
 refine K4 (λ i=>C.length-i) (λ(i:Nat)=>i<=C.length) (λ i=>[(12,.int .i64 i)]) (λ i=>[(9,9,.rw 3 ((KE ((L6 C v).take i) C.length).map eO))]) [] [] 0 (by rw[List.take_zero,xK];exact (by (conv=>whnf);exact ⟨rfl,rfl,rfl⟩)) (by omega) ?_;intro i p1 ih;have ng:(L6 C v).length=C.length:=List.length_map _;have te:((L6 C v).take i).length=i:=by rw[List.length_take,ng];omega
 have hlf:=qC (l:=(L6 C v).take i) (m:=C.length) (by omega);by_cases hi:i<C.length
 ·obtain ⟨c,hc⟩ : ∃ c,C[i]? = some c:=⟨_,zE hi⟩
  have cz:C[(i:Int).toNat]? = some c:=hc;have du:=hv c (zM hc);obtain ⟨x,hx⟩ : ∃ x,c[v]? = some x:=⟨_,zE du⟩;have yv:c[(v:Int).toNat]? = some x:=hx;have hy:(L6 C v)[i]? = some x:=by rw[L6,List.getElem?_map,hc,Option.map_some,List.getD_eq_getElem?_getD,hx];rfl
  have hs:=uB (l:=(L6 C v).take i) (m:=C.length) (x:=x) (by omega);rw[te,<-ZR hy]at hs;generalize KE ((L6 C v).take i) C.length=F0 at *;(repeat' ((first|(apply B6<;>intro hc<;>try omega)|(apply EL;omega)|(refine E4 (by assumption) ?_ rfl ?_;omega)|apply BL)<;>conv=>whnf))
  refine bZ (enc:=eO) (some x) rfl (λ e=>by cases e<;>rfl) (by omega) ?_;(conv=>whnf)
  rw[hs];(repeat' ((first|(apply DD;omega)|fail)<;>conv=>whnf))
  exact FV [] (ih (i+1) (by omega) (by omega))
 obtain rfl:i=C.length:=by omega
 clear ih;rw[zT (by omega),xJ ng];(repeat' ((first|(apply B6<;>intro hc<;>try omega)|apply BL)<;>conv=>whnf))
 refine J2 (enc:=eQ) (λ_=>rfl) rfl (by omega) ?_;(conv=>whnf)
 skip
 exact DH rfl (by simp only[EA,true_and];exact aJ _)
def qT (n:Nt) (ts:List (Int × Int)):Bool:=ts.all λ t=>decide (t.2%pw n.c.f=0)
def KH (n:Nt) (nd:Nd):Rat:=if qT n nd.ts=true then 0 else if n.d.r=2 then Rat.divInt 1 2 else 1
theorem Aox {n:Nt} {ts:List (Int × Int)} {i:Nat} {t:Int × Int} (h:ts[i]? = some t):qT n (ts.take (i+1))=(qT n (ts.take i)&&decide (t.2%pw n.c.f=0)):=by
 rw[List.take_add_one,h,Option.toList_some,qT,List.all_append];simp [qT]
theorem AjO (N:s8 L) (n:Nt) (hn:IU n) (k:Nat) (nd:Nd) (hnd:n.nodes[k]? = some nd):Ev L 350 [.agg (HV n),.int .i64 (k:Int)] (.agg (eQ (KH n nd))):=by
 obtain ⟨h1,h2,⟨h3a,h3b,h3c,h3d⟩,h4,h5,h6⟩:=(J6 n).1 hn.jb;have Lz:=h2;unfold WV at Lz;have Io:n.nodes[(k:Int).toNat]? = some nd:=hnd;have Dd:=PW N.toa7 0 (by omega);have zq:=PW N.toa7 1 (by omega);have hF:=Ajw N.toer 1 2 (by omega) (by omega) (by omega);rw[show ((0:Int):Rat)=0 from rfl]at Dd;rw[show ((1:Int):Rat)=1 from rfl]at zq;have Dg:=O2 n.c.f;have hC:=hn.cf _ (zM hnd);have hki:=(zS hnd).1;have hL:nd.ts.length<=5:=by
  rcases hn.tl with h|⟨_,h⟩
  ·have:=h _ (zM hnd);omega
  ·exact h _ (zM hnd)
 refine Ev.x N.iN rfl rfl ?_;(repeat' ((first|(refine NS ?_ (λ_ _ => ?_);omega)|apply C9|(refine E4 (by assumption) ?_ rfl ?_;omega)|apply BL)<;>conv=>whnf))
 refine MR (λ i _=>nd.ts.length-i) (λ(i:Nat) (b:Bool)=>i<=nd.ts.length/\b=qT n (nd.ts.take i)) (λ i b=>[(20,.int .i64 i),(6,.bool b)]) (λ_ _=>[]) 0 true ⟨by omega,by simp [qT]⟩ ?_;intro i b ⟨p1,p2⟩ ih;by_cases hi:i<nd.ts.length
 ·obtain ⟨t,ht⟩ : ∃ t,nd.ts[i]? = some t:=⟨_,zE hi⟩
  have vq:nd.ts[(i:Int).toNat]? = some t:=ht;have hw:=Aox (n:=n) ht;rw[<-p2]at hw;by_cases hz:t.2%pw n.c.f=0
  ·rw[decide_eq_true hz,Bool.and_true]at hw
   (repeat' ((first|(apply B6<;>intro hc<;>try omega)|(apply DD;omega)|(refine nL ?_ (λ_ _ _ => ?_) (λ_ _ _ _ => ?_);omega;all_goals try omega)|(refine E4 (by assumption) ?_ rfl ?_;omega)|apply BL)<;>conv=>whnf))
   exact FV [] (ih (i+1) b (by omega) ⟨by omega,hw.symm⟩)
  ·rw[decide_eq_false hz,Bool.and_false]at hw
   (repeat' ((first|(apply B6<;>intro hc<;>try omega)|(apply DD;omega)|(refine nL ?_ (λ_ _ _ => ?_) (λ_ _ _ _ => ?_);omega;all_goals try omega)|(refine E4 (by assumption) ?_ rfl ?_;omega)|apply BL)<;>conv=>whnf))
   all_goals exact FV [] (ih (i+1) false (by omega) ⟨by omega,hw.symm⟩)
 have ei:i=nd.ts.length:=by omega
 clear ih;rw[ei,List.take_length]at p2;cases b
 ·by_cases hr:n.d.r=2
  ·have e:KH n nd=Rat.divInt 1 2:=by rw[KH,<-p2,if_neg (by decide),if_pos hr]
   rw[e];(repeat' ((first|(apply B6<;>intro hc<;>try omega)|apply BL|refine BF (hF) ?_)<;>conv=>whnf))
   exact DH rfl (JB _)
  ·have e:KH n nd=1:=by rw[KH,<-p2,if_neg (by decide),if_neg hr]
   rw[e];(repeat' ((first|(apply B6<;>intro hc<;>try omega)|apply BL|refine BF (zq) ?_)<;>conv=>whnf))
   exact DH rfl (JB _)
 ·have e:KH n nd=0:=by rw[KH,<-p2,if_pos rfl]
  rw[e];(repeat' ((first|(apply B6<;>intro hc<;>try omega)|apply BL|refine BF (Dd) ?_)<;>conv=>whnf))
  exact DH rfl (JB _)
end Go.c9
namespace Go.c9
set_option maxHeartbeats 2000000
structure H2 where
 g:List Rat
 l:Rat
 b:List Rat
def MN (n:Nt):List (List Rat):=(List.range n.s.toNat).map λ j=>OY n (1+j)
def aN (n:Nt):List (List Rat):=n.next.map λ v=>L6 (MN n) v.toNat
def wB (n:Nt) (g:List Rat):List Rat:=n.next.map λ v=>g.getD v.toNat 0
def MC (n:Nt) (i:Nat) (l:Rat):H2:=⟨OY n i,l,wB n (OY n i)⟩
def yP (n:Nt) (k:Nat):Option H2:=match n.nodes[k]? with
 | some nd=>if 0<KH n nd then some (MC n (1+n.s.toNat+k) (KH n nd)) else none
 | none=>none
def J7 (n:Nt) (k:Nat):List H2:=(List.range k).filterMap (yP n)
def cn (n:Nt):List H2:=MC n 0 1::J7 n n.nodes.length
theorem AgY (n:Nt) (k:Nat):J7 n (k+1)=J7 n k++(yP n k).toList:=by
 rw[J7,List.range_succ,List.filterMap_append];congr 1
theorem AcZ (n:Nt) : ∀ k,(J7 n k).length<=k
 | 0=>by simp [J7]
 | k+1=>by
  rw[AgY,List.length_append];have:=AcZ n k
  cases yP n k<;>simp<;>omega
theorem Avo (n:Nt) (nd:Nd):KH n nd=0\/KH n nd=Rat.divInt 1 2\/KH n nd=1:=by
 unfold KH;split
 ·exact Or.inl rfl
 ·split
  ·exact Or.inr (Or.inl rfl)
  ·exact Or.inr (Or.inr rfl)
theorem rY (n:Nt) (nd:Nd):Bt 1 (KH n nd)/\0<=KH n nd:=by
 rcases Avo n nd with h|h|h<;>rw[h]<;>exact ⟨⟨by decide,by decide⟩,by decide⟩
theorem Ab4 {n:Nt} (hn:IU n) (fr:Nat):(OY n fr).length=n.s.toNat+1+n.nodes.length:=by
 obtain ⟨_,_,⟨h,_⟩,_⟩:=(J6 n).1 hn.jb;rw[OY,Afb,Vp];simp [II];omega
theorem AkU {n:Nt} (hn:IU n) (fr:Nat):Bs 40000 (OY n fr):=by
 obtain ⟨_,h2,⟨h,_⟩,_⟩:=(J6 n).1 hn.jb;unfold WV at h2;have hu:Bt 24 (Rat.divInt 1 (pw n.c.f)):=by
  have e1:=O2 n.c.f;have e2:=aV (n:=n.c.f) (m:=23) (by omega);have e3:pw 23=8388608:=by unfold pw;rfl
  obtain ⟨e,he⟩:=Int.eq_ofNat_of_zero_le (show 0<=pw n.c.f by omega);rw[he]at e2 ⊢;rw[Rat.divInt_ofNat];refine Bt.mk (by decide) ?_;show _<=16777216;omega
 have o5:(II n).length=n.nodes.length:=by simp [II]
 have:=AkV hn hu (ex:=(fr:Int)-(n.s+1)) (w:=JF (n.s+1).toNat fr) (Bs.unit _ _ _) n.nodes.length (Nat.le_refl _)
 rwa [<-o5,List.take_length]at this
structure nN (n:Nt) (s:H2):Prop where
 gl:s.g.length=n.s.toNat+1+n.nodes.length
 gb:Bs 40000 s.g
 lb:Bt 1 s.l
 l0:0<=s.l
 b:s.b=wB n s.g
theorem AgW {n:Nt} (hn:IU n) (i:Nat) {l:Rat} (hl:Bt 1 l) (h0:0<=l):nN n (MC n i l):=⟨Ab4 hn i,AkU hn i,hl,h0,rfl⟩
theorem Axj {n:Nt} (hn:IU n) {k:Nat} : ∀ s∈J7 n k,nN n s:=by
 intro s hs;simp only[J7,List.mem_filterMap,yP]at hs;obtain ⟨j,_,hj⟩:=hs;cases h:n.nodes[j]? with
 | none=>rw[h]at hj;cases hj
 | some nd =>
  simp only[h]at hj;by_cases hp:0<KH n nd
  ·rw[if_pos hp,Option.some.injEq]at hj
   rw[<-hj];exact AgW hn _ (rY n nd).1 (rY n nd).2
  ·rw[if_neg hp]at hj;cases hj
theorem AnB {n:Nt} (hn:IU n):nN n (MC n 0 1):=AgW hn 0 ⟨by decide,by decide⟩ (by decide)
theorem yR {n:Nt} (hn:IU n) : ∀ s∈cn n,nN n s:=by
 intro s hs;rcases List.mem_cons.1 hs with rfl|hs
 ·exact AnB hn
 ·exact Axj hn s hs
theorem AnC {n:Nt} (hn:IU n):1<=(cn n).length/\(cn n).length<=6:=by
 have:=AcZ n n.nodes.length
 have:=hn.nl
 simp only[cn,List.length_cons];omega
theorem xL {k:Nat} {l:List Rat} (h:Bs k l) (i:Nat):Bt k (l.getD i 0):=by
 rw[List.getD_eq_getElem?_getD];cases e:l[i]? with
 | none=>exact Bt.zero k
 | some x=>exact h.at e
theorem Acj {n:Nt} (hn:IU n):n.next.length=n.s.toNat /\ ∀ v∈n.next,0<=v/\v.toNat<n.s.toNat+1+n.nodes.length:=by
 obtain ⟨_,_,⟨h1,h2,h3,h4⟩,_,h5,_⟩:=(J6 n).1 hn.jb;refine ⟨by omega,λ v hv => ?_⟩;have:=of_decide_eq_true (List.all_eq_true.1 h5 v hv)
 omega
theorem AqM {n:Nt} (hn:IU n) (g:List Rat):(wB n g).length=n.s.toNat:=by
 rw[wB,List.length_map];exact (Acj hn).1
theorem AqL {n:Nt} {k:Nat} {g:List Rat} (hg:Bs k g):Bs k (wB n g):=by
 intro x hx;obtain ⟨v,_,rfl⟩:=List.mem_map.1 hx;exact xL hg _
theorem nN.bl {n:Nt} {s:H2} (hn:IU n) (h:nN n s):s.b.length=n.s.toNat:=by rw[h.b];exact AqM hn _
theorem nN.bb {n:Nt} {s:H2} (h:nN n s):Bs 40000 s.b:=by rw[h.b];exact AqL h.gb
theorem AbI (n:Nt):(MN n).length=n.s.toNat:=by simp [MN]
theorem Arm {n:Nt} {j:Nat} (h:j<n.s.toNat):(MN n)[j]? = some (OY n (1+j)):=by
 rw[MN,List.getElem?_map,List.getElem?_range h];rfl
theorem AiO {n:Nt} (hn:IU n) : ∀ c∈MN n,c.length=n.s.toNat+1+n.nodes.length:=by
 intro c hc;obtain ⟨j,_,rfl⟩:=List.mem_map.1 hc;exact Ab4 hn _
theorem Agp (n:Nt) (v:Nat):(L6 (MN n) v).length=n.s.toNat:=by rw[L6,List.length_map,AbI]
theorem Agn {n:Nt} (hn:IU n) (v:Nat):Bs 40000 (L6 (MN n) v):=by
 intro x hx;obtain ⟨c,hc,rfl⟩:=List.mem_map.1 hx;obtain ⟨j,_,rfl⟩:=List.mem_map.1 hc;exact xL (AkU hn _) _
theorem pP {n:Nt} (hn:IU n):Sq n.s.toNat (aN n):=by
 refine ⟨by rw[aN,List.length_map];exact (Acj hn).1,λ r hr => ?_⟩;obtain ⟨v,_,rfl⟩:=List.mem_map.1 hr;exact Agp n _
theorem Abv {n:Nt} (hn:IU n):Ms 40000 (aN n):=by
 intro r hr;obtain ⟨v,_,rfl⟩:=List.mem_map.1 hr;exact Agn hn _
theorem AoE {n kA kB:Nat} {a:List (List Rat)} {b:List Rat} {D E:Rat} (hs:Sq n a) (hA : ∀ r∈HP D a,∀ x∈r,Wh kA x) (hB : ∀ x∈b.map (· * E),Wh kB x) : ∀ j,∀ x∈JL a b D E j,Wh (kB+j*(kA+n)) x
 | 0=>by
  rw[Add];intro x hx;exact (hB x hx).le (by omega)
 | j+1=>by
  rw[Adc];intro x hx;refine (Aov hA (AcO _ hs.r) (AoE hs hA hB j) x hx).le ?_;simp only[Nat.succ_mul];omega
theorem Ae3 {n:Nat} : ∀ {ls:List (List Rat)},(∀ r∈ls,r.length=n)->ls.flatten.length=ls.length*n
 | [],_=>by simp
 | r::l,h=>by
  rw[List.flatten_cons,List.length_append,Ae3 λ x hx=>h x (List.mem_cons_of_mem _ hx),h r List.mem_cons_self,List.length_cons,Nat.succ_mul,Nat.add_comm]
def wL (n:Nt):Rat:=PO ((cn n).map (·.b)).flatten
theorem Arn {n:Nt} (hn:IU n) : ∃ E:Nat,wL n=(E:Rat)/\0<E/\Bt 960000 (E:Rat) /\ ∀ s∈cn n,∀ x∈s.b.map (· * (E:Rat)),Wh 1000000 x:=by
 have hl:((cn n).map (·.b)).flatten.length<=24:=by
  have h1:=(AnC hn).2;have h2:=hn.st;rw[Ae3 (n:=n.s.toNat) (λ r hr=>by obtain ⟨s,hs,rfl⟩:=List.mem_map.1 hr;exact (yR hn s hs).bl hn),List.length_map];exact Nat.le_trans (Nat.mul_le_mul h1 (show n.s.toNat<=4 by omega)) (by omega)
 have hb:Bs 40000 ((cn n).map (·.b)).flatten:=by
  intro x hx;obtain ⟨r,hr,hx⟩:=List.mem_flatten.1 hx;obtain ⟨s,hs,rfl⟩:=List.mem_map.1 hr;exact (yR hn s hs).bb x hx
 obtain ⟨E,e1,e2,e3,e4⟩:=Rs rfl hb;refine ⟨E,e1,e2,(uM e3).le (by omega),λ s hs x hx => ?_⟩;obtain ⟨y,hy,rfl⟩:=List.mem_map.1 hx;exact (e4 _ (List.mem_map.2 ⟨y,List.mem_flatten.2 ⟨s.b,List.mem_map.2 ⟨s,hs,rfl⟩,hy⟩,rfl⟩)).le (by omega)
theorem Anl {n:Nt} (hn:IU n) : ∃ D E:Nat,PO (aN n).flatten=(D:Rat)/\wL n=(E:Rat)/\0<D/\0<E/\Bt 640000 (D:Rat)/\Bt 960000 (E:Rat)/\Ms 680000 (HP (D:Rat) (aN n)) /\ ∀ s∈cn n,∀ j,j<=128->Bs 90000000 (JL (aN n) s.b (D:Rat) (E:Rat) j):=by
 obtain ⟨D,d1,d2,d3,d4⟩:=Tk (pP hn) (Abv hn);obtain ⟨E,e1,e2,e3,e4⟩:=Arn hn;have o4:=hn.st;have Fk:n.s.toNat*n.s.toNat<=4*4:=Nat.mul_le_mul (by omega) (by omega);have Nu:n.s.toNat*n.s.toNat*40000<=640000:=Nat.le_trans (zR 40000 Fk) (by omega);refine ⟨D,E,d1,e1,d2,e2,(uM d3).le Nu,e3,λ r hr x hx=>((d4 r hr x hx).le (by omega)).bt,λ s hs j hj x hx => ?_⟩;have hA : ∀ r∈HP (D:Rat) (aN n),∀ x∈r,Wh 680000 x:=λ r hr x hx=>(d4 r hr x hx).le (by omega)
 refine ((AoE (pP hn) hA (e4 s hs) j x hx).le ?_).bt;have:=Nat.mul_le_mul hj (show 680000+n.s.toNat<=680004 by omega)
 omega
def fj (f:H2->Rat) (l:List H2):Rat:=l.foldl (λ a s=>a+f s) 0
theorem AlY (f:H2->Rat) (l:List H2) (s:H2):fj f (l++[s])=fj f l+f s:=by rw[fj,List.foldl_append];rfl
theorem Aca {f:H2->Rat} {l:List H2} {i:Nat} {s:H2} (h:l[i]? = some s):fj f (l.take (i+1))=fj f (l.take i)+f s:=by
 rw[List.take_add_one,h,Option.toList_some,AlY]
theorem Avw {f g:H2->Rat} {l:List H2} (h : ∀ s∈l,f s=g s):fj f l=fj g l:=by
 have : ∀ (l:List H2) (a:Rat),(∀ s∈l,f s=g s)->l.foldl (λ a s=>a+f s) a=l.foldl (λ a s=>a+g s) a:=by
  intro l;induction l with
  | nil=>intro a _;rfl
  | cons s l ih =>
   intro a h;rw[List.foldl_cons,List.foldl_cons,h s List.mem_cons_self];exact ih _ λ x hx=>h x (List.mem_cons_of_mem _ hx)
 exact this l 0 h
theorem Avx (f g:H2->Rat) (l:List H2) (d:Rat):fj f l+fj g l/d=fj (λ s=>f s+g s/d) l:=by
 have : ∀ (l:List H2) (a b c:Rat),a+b/d=c->l.foldl (λ a s=>a+f s) a+l.foldl (λ a s=>a+g s) b/d=l.foldl (λ a s=>a+(f s+g s/d)) c:=by
  intro l;induction l with
  | nil=>intro a b c h;exact h
  | cons s l ih =>
   intro a b c h;refine ih _ _ _ ?_;show a+f s+(b+g s)/d=c+(f s+g s/d);rw[<-h,Rat.div_def,Rat.div_def,Rat.div_def,Rat.add_mul];grind
 exact this l 0 0 0 (by rw[Rat.div_def,Rat.zero_mul,Rat.add_zero])
theorem AlV {f:H2->Rat} {k:Nat} {l:List H2} (h : ∀ s∈l,Bt k (f s)):Bt (l.length*(k+1)) (fj f l):=by
 have : ∀ (l:List H2) (a:Rat) (m:Nat),(∀ s∈l,Bt k (f s))->Bt m a->Bt (m+l.length*(k+1)) (l.foldl (λ a s=>a+f s) a):=by
  intro l;induction l with
  | nil=>intro a m _ h;simpa using h
  | cons s l ih =>
   intro a m h1 h2;have:=ih (a+f s) (m+k+1) (λ x hx=>h1 x (List.mem_cons_of_mem _ hx)) (h2.add (h1 s List.mem_cons_self))
   exact this.le (by rw[List.length_cons,Nat.succ_mul];omega)
 have:=this l 0 0 h (Bt.zero 0)
 rwa [Nat.zero_add]at this
def X9 (n:Nt) (s:H2) (v:Nat):NN:=⟨aN n,s.b,L6 (MN n) v,s.g.getD v 0⟩
def MP (n:Nt) (p v:Nat):Rat:=M4 (X9 n (MC n 0 1) v) p
def LZ (n:Nt) (p v:Nat):Rat:=fj (λ s=>s.l*M4 (X9 n s v) p) (J7 n n.nodes.length)
theorem Axz (S:NN) (p:Nat):0<=M4 S p:=by
 have h1:=AdB S.d;have h2:=Ahf (f:=YV S.a S.b S.c) (λ j=>AdB _) (p+p);have h3:=Ahf (f:=λ j=>cK S.a S.b (p+j)) (λ j=>Aul _) p;have h4:=Rat.mul_nonneg (Anh S.c) h3;rw[M4];grind
theorem AmQ (n:Nt) (p v:Nat):0<=MP n p v:=Axz _ _
end Go.c9

namespace Go.c9
set_option maxHeartbeats 2000000
theorem AiZ (f:Int):Rat.divInt 1 (pw f)=1/((pw f:Int):Rat):=by
 have h:((pw f:Int):Rat)≠0:=by
  intro e;have:pw f=0:=by exact_mod_cast e
  have:=O2 f
  omega
 rw[Rat.divInt_eq_div,show ((1:Int):Rat)=1 from rfl]
theorem Ak2 (u:Rat) {ex:Int} (hx:ex<0) : ∀ (l:List (List (Int × Int))) (k:Nat) (vals:List Rat),NP (1/u) ex k vals l=PA u (-1) k vals l
 | [],_,_=>rfl
 | ts::r,k,vals=>by
  rw[NP,PA,if_neg (by omega),if_neg (by omega),Ak2 u hx r,Rat.add_zero];rw[Rat.div_def,Rat.div_def,Rat.one_mul]
theorem Ahg {vals:List Rat} (h : ∀ v∈vals,v=0) : ∀ ts,LJ vals ts=0
 | []=>rfl
 | t::ts=>by
  have:vals.getD t.1.toNat 0=0:=by
   rw[List.getD_eq_getElem?_getD];cases e:vals[t.1.toNat]? with
   | none=>rfl
   | some x=>exact h x (zM e)
  rw[LJ,Ahg h ts,this];grind
theorem Afd (u:Rat) (k0:Nat) : ∀ (l:List (List (Int × Int))) (k:Nat) (vals:List Rat),(k<=k0 -> ∀ v∈vals,v=0)->NP (1/u) (k0:Int) k vals l=PA u (k0:Int) k vals l
 | [],_,_,_=>rfl
 | ts::r,k,vals,h=>by
  rw[NP,PA];by_cases e:k=k0
  ·subst e
   rw[if_pos rfl,if_pos rfl,Ahg (h (Nat.le_refl _)),Afd u k r (k+1) _ (λ h2=>absurd h2 (by omega))];rw[Rat.div_def,Rat.zero_mul,Rat.zero_add]
  ·rw[if_neg (by omega),if_neg (by omega),Rat.add_zero,show LJ vals ts*(1/u)=LJ vals ts/u by rw[Rat.div_def,Rat.div_def,Rat.one_mul]]
   refine Afd u k0 r (k+1) _ λ h2 v hv => ?_
   have hz:=h (by omega);rcases List.mem_append.1 hv with hv|hv
   ·exact hz v hv
   ·rw[List.mem_singleton.1 hv,Ahg hz,Rat.div_def,Rat.zero_mul]
theorem AxQ {m:Nat} {p q:Int} (hp:p<0\/(m:Int)<=p) (hq:q<0\/(m:Int)<=q):JF m p=JF m q:=by
 simp only[JF];refine List.map_congr_left λ j hj => ?_
 have:=List.mem_range.1 hj
 rw[if_neg (by omega),if_neg (by omega)]
variable {n:Nt}
theorem AkW (hb:NF n=true) {j:Nat} (hj:j<=n.s.toNat):OY n j=O3 n (j:Int) (-1):=by
 obtain ⟨_,_,⟨h0,_⟩,_⟩:=(J6 n).1 hb;rw[OY,O3,AiZ,Ak2 _ (by omega),show (n.s+1).toNat=(1+n.s).toNat by omega]
theorem Auc (hb:NF n=true) (k:Nat):OY n (1+n.s.toNat+k)=O3 n (-1) (k:Int):=by
 obtain ⟨_,_,⟨h0,_⟩,_⟩:=(J6 n).1 hb;rw[OY,O3,AiZ,show ((1+n.s.toNat+k:Nat):Int)-(n.s+1)=(k:Int) by omega,show (n.s+1).toNat=(1+n.s).toNat by omega,AxQ (q := -1) (by omega) (by omega)];refine Afd _ k _ 0 _ λ_ v hv => ?_
 simp only[JF,List.mem_map,List.mem_range]at hv;obtain ⟨i,_,rfl⟩:=hv;rw[if_neg (by omega)]
theorem Ad6 (hb:NF n=true) (e:Int):L6 (MN n) e.toNat=fA n e:=by
 rw[L6,MN,fA,List.map_map];refine List.map_congr_left λ j hj => ?_
 have:=List.mem_range.1 hj
 show (OY n (1+j)).getD e.toNat 0=_;rw[AkW hb (by omega),show ((1+j:Nat):Int)=(j:Int)+1 by omega]
theorem AkQ (hb:NF n=true) (e:Int):(OY n 0).getD e.toNat 0=gX n e:=by rw[AkW hb (by omega)];rfl
theorem AkP (hb:NF n=true) (k:Nat) (e:Int):(OY n (1+n.s.toNat+k)).getD e.toNat 0=gK n k e:=by rw[Auc hb];rfl
theorem vY (hb:NF n=true):aN n=n.next.map (fA n):=List.map_congr_left λ e _=>Ad6 hb e
abbrev KQ (n:Nt) (v:Nat):Nt:={ n with out:=(v:Int) }
theorem Aoc (hb:NF n=true) (v:Nat):X9 n (MC n 0 1) v=L9 (KQ n v):=by
 have e1:aN n=(L9 (KQ n v)).a:=vY hb;have e2:(MC n 0 1).b=(L9 (KQ n v)).b:=List.map_congr_left λ e _=>AkQ hb e
 have e3:L6 (MN n) v=(L9 (KQ n v)).c:=Ad6 hb (v:Int);have e4:(MC n 0 1).g.getD v 0=(L9 (KQ n v)).d:=AkQ hb (v:Int);rw[X9,e1,e2,e3,e4]
theorem Aob (hb:NF n=true) (k:Nat) (l:Rat) (v:Nat):X9 n (MC n (1+n.s.toNat+k) l) v=V4 (KQ n v) (k:Int):=by
 have e1:aN n=(V4 (KQ n v) (k:Int)).a:=vY hb;have e2:(MC n (1+n.s.toNat+k) l).b=(V4 (KQ n v) (k:Int)).b:=List.map_congr_left λ e _=>AkP hb k e
 have e3:L6 (MN n) v=(V4 (KQ n v) (k:Int)).c:=Ad6 hb (v:Int);have e4:(MC n (1+n.s.toNat+k) l).g.getD v 0=(V4 (KQ n v) (k:Int)).d:=AkP hb k (v:Int);rw[X9,e1,e2,e3,e4]
def xS (n:Nt) (k:Nat):Rat:=match n.nodes[k]? with
 | some nd=>KH n nd
 | none=>0
theorem Am7 (hb:NF n=true) (p v:Nat) : ∀ K,fj (λ s=>s.l*M4 (X9 n s v) p) (J7 n K)=Br (xS n) (λ k=>M4 (V4 (KQ n v) (k:Int)) p) K
 | 0=>rfl
 | K+1=>by
  rw[AgY,Br,<-Am7 hb p v K,yP,xS];cases h:n.nodes[K]? with
  | none =>
   show fj _ (J7 n K++[])=_+0*_;rw[List.append_nil,Rat.zero_mul,Rat.add_zero]
  | some nd =>
   show fj _ (J7 n K++(if 0<KH n nd then some (MC n (1+n.s.toNat+K) (KH n nd)) else none).toList)=_+KH n nd*_;by_cases hp:0<KH n nd
   ·rw[if_pos hp,Option.toList_some,AlY,Aob hb];rfl
   ·have h0:KH n nd=0:=by have:=(rY n nd).2;grind
    rw[if_neg hp,h0,Rat.zero_mul,Rat.add_zero,Option.toList_none,List.append_nil]
theorem Am6 (hb:NF n=true) (p v:Nat):LZ n p v=Br (xS n) (λ k=>M4 (V4 (KQ n v) (k:Int)) p) n.nodes.length:=Am7 hb p v _
theorem AmR (hb:NF n=true) (p v:Nat):MP n p v=M4 (L9 (KQ n v)) p:=by rw[MP,Aoc hb]
end Go.c9

namespace Go.c9
open F
set_option maxHeartbeats 8000000
variable {L:Lib}
def tF (M:Mem):Mem->Prop
 | []=>True
 | (k,s,c)::r=>g7 M k=some (s,c)/\tF M r
theorem tF.get {M:Mem} : ∀ {M0:Mem},tF M M0 -> ∀ k s c,g7 M0 k=some (s,c)->g7 M k=some (s,c)
 | [],_,_,_,_,e=>by cases e
 | (i,s0,c0)::r,h,k,s,c,e=>by
  simp only[g7]at e;cases hb:Nat.beq k i<;>simp only[hb,cond_true,cond_false]at e
  ·exact tF.get h.2 k s c e
  ·rw[GU.1 hb,<-e];exact h.1
theorem YF.sub {σ:OA} {own:C2} {M M0:Mem} (h:YF σ own M) (hm:tF M M0):YF σ own M0:=by
 have hr : ∀ k t c,g6 M0 k t=some c->g6 M k t=some c:=λ k t c e=>by
  obtain ⟨s,c0,g,_⟩:=XY e;have g2:=hm.get k s c0 g;unfold g6 at e ⊢;rw[g]at e;rw[g2];exact e
 exact ⟨λ k s c e=>h.site k s c (hm.get k s c e),λ k t c e=>h.k8 k t c (hr k t c e),λ k t c e=>h.old k t c (hr k t c e),λ k t k' t' c c' e e'=>h.inj k t k' t' c c' (hr k t c e) (hr k' t' c' e'),λ k t c e=>h.low k t c (hr k t c e)⟩
theorem Adn {f:Nat} {vs:List AV} {tm:Tm} {M:Mem} {K:AV->Mem->Prop} (h:EU L f vs tm M λ r M' => ∃ M1,tF M' M1/\K r M1):EU L f vs tm M K:=by
 intro σ own hs;obtain ⟨r,q8,σ',M',h1,h2,h3,M1,h4,h5⟩:=h σ own hs;exact ⟨r,q8,σ',M1,h1,h2.sub h4,h3,h5⟩
def Acp (ks:List Nat):AV->Bool
 | .row k t _ _ _=>Nat.beq t 0&&aP k ks
 | .ptr k t _ _=>Nat.beq t 0&&aP k ks
 | _=>true
def So (ks:List Nat):List AV->Bool
 | []=>true
 | v::r=>Acp ks v&&So ks r
def AfZ (ks:List Nat):AV->Bool
 | .agg cs=>So ks cs
 | .fn _ _ _ cs=>So ks cs
 | v=>Acp ks v
def Acq (ks:List Nat):List AV->Bool
 | []=>true
 | v::r=>AfZ ks v&&Acq ks r
def Af0 (ks:List Nat):AV->Bool
 | .j5 vs=>Acq ks vs
 | v=>AfZ ks v
def Acs (ks:List Nat):Tm->Bool
 | []=>true
 | (_,v)::r=>Af0 ks v&&Acs ks r
theorem Al0 {k:Nat} : ∀ {l:List Nat},aP k l=true->k∈l
 | [],h=>by cases h
 | j::r,h=>by
  simp only[aP]at h;cases hb:Nat.beq k j<;>simp only[hb,cond_true,cond_false]at h
  ·exact List.mem_cons_of_mem _ (Al0 h)
  ·rw[GU.1 hb];exact List.mem_cons_self
section
variable {ks:List Nat} {σ σ':OA} (hs : ∀ k∈ks,σ' k 0=σ k 0)
include hs
theorem Qu {v:AV} (h:Acp ks v=true):E7 σ' v=E7 σ v:=by
 cases v<;>try rfl
 all_goals
  simp only[Acp,Bool.and_eq_true]at h;have h1:=GU.1 h.1;have h2:=hs _ (Al0 h.2);subst h1;simp only[E7,h2]
theorem Ahc : ∀ {l:List AV},So ks l=true->l.map (E7 σ')=l.map (E7 σ)
 | [],_=>rfl
 | v::r,h=>by
  simp only[So,Bool.and_eq_true]at h;rw[List.map_cons,List.map_cons,Qu hs h.1,Ahc h.2]
theorem Ag8 {v:AV} (h:AfZ ks v=true):GD σ' v=GD σ v:=by
 cases v with
 | agg cs=>simp only[GD];rw[Ahc hs h]
 | fn p f g cs=>simp only[GD];rw[Ahc hs h]
 | row k t z o n=>exact Qu hs (v := .row k t z o n) h
 | ptr k t i j=>exact Qu hs (v := .ptr k t i j) h
 | _=>rfl
theorem AnF : ∀ {l:List AV},Acq ks l=true->l.map (GD σ')=l.map (GD σ)
 | [],_=>rfl
 | v::r,h=>by
  simp only[Acq,Bool.and_eq_true]at h;rw[List.map_cons,List.map_cons,Ag8 hs h.1,AnF h.2]
theorem Axl {v:AV} (h:Af0 ks v=true):FG σ' v=FG σ v:=by
 cases v with
 | j5 vs=>simp only[FG];rw[AnF hs h]
 | agg cs=>exact Ag8 hs (v := .agg cs) h
 | fn p f g cs=>exact Ag8 hs (v := .fn p f g cs) h
 | row k t z o n=>exact Qu hs (v := .row k t z o n) h
 | ptr k t i j=>exact Qu hs (v := .ptr k t i j) h
 | _=>rfl
end
theorem Amu {ks:List Nat} : ∀ {tm:Tm},Acs ks tm=true -> ∀ j,Af0 ks (tg tm j)=true
 | [],_,_=>rfl
 | (i,v)::r,h,j=>by
  simp only[Acs,Bool.and_eq_true]at h;simp only[tg];cases hb:Nat.beq j i<;>simp only[cond_true,cond_false]
  ·exact Amu h.2 j
  ·exact h.1
def tmF:Nat->List Nat->Tm
 | _,[]=>[]
 | i,k::r=>(i,.ptr k 0 0 0)::tmF (i+1) r
abbrev tmK (ks:List Nat):Tm:=tmF 0 ks
theorem Aoh : ∀ {ks:List Nat} {i k:Nat},k∈ks -> ∃ j,i<=j/\tg (tmF i ks) j = .ptr k 0 0 0
 | [],_,_,h=>by cases h
 | j::r,i,k,h=>by
  rcases List.mem_cons.1 h with rfl|e
  ·exact ⟨i,Nat.le_refl _,by simp [tmF,tg]⟩
  ·obtain ⟨a,h1,h2⟩:=Aoh (i:=i+1) e
   refine ⟨a,by omega,?_⟩;simp only[tmF,tg];rw[OB.2 (show a≠i by omega),cond_false];exact h2
theorem sU {f:Nat} {vs:List AV} {tm:Tm} {M:Mem} {K:AV->Mem->Prop} (ks:List Nat) (M0:Mem) (hm:tF M M0) (ht:Acs ks tm=true) (h:EU L f vs (tmK ks) M0 K):EU L f vs tm M K:=by
 intro σ own hs;obtain ⟨r,q8,σ',M',h1,h2,h3,h4⟩:=h σ own (hs.sub hm);refine ⟨r,q8,σ',M',h1,h2,λ j => ?_,h4⟩;refine Axl (λ k hk => ?_) (Amu ht j);obtain ⟨j,_,hj⟩:=Aoh (i:=0) hk;have:=h3 j
 rw[show tg (tmK ks) j=_ from hj]at this;simp only[FG,GD,E7,AV.ptr.injEq]at this;exact Prod.ext this.1 this.2.1
abbrev aA (w:Bool) (P:H2->List (List Rat) × Rat) (s:H2):List AV :=
 .sl false (s.g.map eQ) :: .bool (decide (s.l.num<0)) :: .sl false ((dg s.l.num.natAbs).map C3) :: .sl false ((dg s.l.den).map C3)::(bif w then .sl true (pV (P s).1)::YR true (P s).2 else [.nil,.bool false,.nil,.nil])
def aQ (ss:List H2) (P:H2->List (List Rat) × Rat) (i:Nat):List (List AV):=(ss.take i).map (aA true P)++(ss.drop i).map (aA false P)
theorem AvD (ss:List H2) (P:H2->List (List Rat) × Rat):aQ ss P 0=ss.map (aA false P):=by simp [aQ]
theorem AvC (ss:List H2) (P:H2->List (List Rat) × Rat):aQ ss P ss.length=ss.map (aA true P):=by simp [aQ]
theorem ApY {ss:List H2} {P:H2->List (List Rat) × Rat} {i:Nat} {s:H2} {K:List (List AV)->Prop} (hs:ss[i]? = some s) (hk:K (aQ ss P (i+1))):E1 (aQ ss P i) (0+((i:Int)).toNat) 4 (.sl true (pV (P s).1)::YR true (P s).2) K:=by
 have hi:=(zS hs).1;have hl:((ss.take i).map (aA true P)).length=i:=by rw[List.length_map,List.length_take];omega
 have hg:(aQ ss P i)[i]? = some (aA false P s):=by
  rw[aQ,List.getElem?_append_right (by rw[hl];omega),hl,Nat.sub_self,List.getElem?_map,List.getElem?_drop,Nat.add_zero,hs];rfl
 rw[Nat.zero_add,Int.toNat_natCast];refine ⟨_,hg,Nat.le_refl 8,?_⟩;have:(aQ ss P i).set i (splice (aA false P s) 4 (.sl true (pV (P s).1)::YR true (P s).2))=aQ ss P (i+1):=by
  have e1:splice (aA false P s) 4 (.sl true (pV (P s).1)::YR true (P s).2)=aA true P s:=rfl;rw[e1,aQ,aQ,List.set_append_right _ _ (by rw[hl];omega),hl,Nat.sub_self,List.take_add_one,hs,List.map_append,List.append_assoc];congr 1;rw[List.drop_eq_getElem_cons hi,List.map_cons,List.set_cons_zero];have:ss[i]=s:=(zS hs).2
  rw[<-this];rfl
 rw[this];exact hk
def OR (S:Nat) (T:List (List Rat)) (i:Nat):List (Option (Nat × List (List AV))):=if S=0 then List.replicate T.length none else mz T T.length i
theorem AqK (S:Nat) (T:List (List Rat)):OR S T 0=List.replicate T.length none:=by
 unfold OR;split
 ·rfl
 ·exact AfO T _
theorem AqF {S:Nat} {T:List (List Rat)} {i:Nat} (hi:i<=T.length):(OR S T i).length=T.length:=by
 unfold OR;split
 ·exact List.length_replicate
 ·exact AfL hi
theorem AqH {S:Nat} {T:List (List Rat)} {i:Nat} (hi:i<T.length):(OR S T i)[i]? = some none:=by
 unfold OR;split
 ·rw[List.getElem?_replicate,if_pos hi]
 ·have hl:(LW 3 eQ (T.take i)).length=i:=by simp only[LW,List.length_map,List.length_take];omega
  have:=AkL (z:=(none:Option (Nat × List (List AV)))) (l:=LW 3 eQ (T.take i)) (m:=T.length) (by omega)
  rw[hl]at this;exact this
theorem AqJ {S:Nat} {T:List (List Rat)} {i:Nat} {r:List Rat} (h0:S≠0) (h:T[i]? = some r):(OR S T i).set i (some (3,r.map eQ))=OR S T (i+1):=by
 rw[OR,if_neg h0,OR,if_neg h0];exact AfN h (zS h).1
theorem AqI {T:List (List Rat)} (i j:Nat):OR 0 T i=OR 0 T j:=by rw[OR,OR,if_pos rfl,if_pos rfl]
theorem AqE {S:Nat} {T:List (List Rat)} (h0:S≠0):OR S T T.length=LW 3 eQ T:=by rw[OR,if_neg h0];exact AfK rfl
theorem AqG (T:List (List Rat)) (i:Nat):OR 0 T i=List.replicate T.length none:=by rw[OR,if_pos rfl]
theorem Am5 (q:Bool) : ∀ n:Nat,oI q (List.replicate n none)=List.replicate n [.sl false []]
 | 0=>rfl
 | n+1=>by rw[List.replicate_succ,List.replicate_succ];simp only[oI];rw[Am5 q n]
theorem ApT {q:Bool} {n off len:Nat} {K:List (List AV)->Prop} (ho:off=0) (hl:len=n) (h:K (List.replicate n [.sl false []])):IJ q (List.replicate n none) off len K:=by
 refine ⟨ho,by rw[List.length_replicate];exact hl,λ z es hm => ?_,by rw[Am5];exact h⟩;have:=List.eq_of_mem_replicate hm
 cases this
theorem Asy (q:Bool) {T:List (List Rat)} (h : ∀ r∈T,r=[]):S1 q T=List.replicate T.length [.sl q []]:=by
 refine List.eq_replicate_iff.2 ⟨by rw[List.length_map],λ x hx => ?_⟩;obtain ⟨r,hr,rfl⟩:=List.mem_map.1 hx;rw[h r hr];rfl
end Go.c9

namespace Go.c9
open F
attribute [local irreducible] A0 B0 D8 BK IH DY FC E1 HI F9 IA LT GS EF HH H4 BD EU B9 pw IO H0 JM KX J9 GV IJ GT JW
variable {L:Lib}
set_option maxHeartbeats 16000000
set_option maxRecDepth 8000
def Abf (n:Nt) (sc:Nat) (X:Mem) (ks:List Nat):Prop:=(X=[(1,sc,.bx (HV n))]/\ks=[1])\/(X=[(2,sc,.bx (HV n))]/\ks=[2])\/X=[(3,sc,.bx (HV n)),(6,6,.bx [.bool false,.nil,.nil])]/\ks=[3,6]
abbrev AlZ (X:Mem) (S m:Nat) (n:Nt) (eng:List AV) (C:List (List Rat)) (row:List (List AV)):Mem :=
 X++[(356001,356001,.bx (HV n)),(356004,356004,.bx [.row 356017 0 1 0 S]),(356017,356017,.mx (LW 3 eQ C)),(356009,356009,.bx eng),(356011,356011,.bx [.row 356057 0 8 0 m]),(356057,356057,.rw 8 row)]
theorem AqX (N:s8 L) (n:Nt) (hn:IU n) (X:Mem) (ks:List Nat) (sc:Nat) (hX:Abf n sc X ks) (R:List (List Rat)) (D U E:Rat) (p:Nat) (C:List (List Rat)) (ss:List H2) (P:H2->List (List Rat) × Rat) (hs : ∀ s∈ss,nN n s) (hm:ss.length<=6)
  (hE:E=PO (ss.map (·.b)).flatten) (Km:Bt 960000 E)
  (hW : ∀ s∈ss,Ev L 304 [.agg (S0 false R D (p:Int) U),.sl false ((s.b.map (· * E)).map eQ)] (.agg (rL (P s).1 (P s).2))) (hP : ∀ s,(P s).1≠[]) (K:AV->Mem->Prop)
  (hK:K (.agg (eQ E)) (AlZ X n.s.toNat ss.length n (S0 false R D (p:Int) U) C (ss.map (aA true P)))) :
  EU L 355 [.agg (S0 false R D (p:Int) U),.agg (HV n),.row 356057 0 8 0 ss.length] (tmK (ks++[356001,356004,356009,356011,356057])) (AlZ X n.s.toNat ss.length n (S0 false R D (p:Int) U) C (ss.map (aA false P))) K:=by
 obtain ⟨mf,Fo⟩:=Acj hn;have o4:=hn.st;have Fl:=hn.nl;obtain ⟨S,hS⟩ : ∃ S:Nat,n.s.toNat=S:=⟨_,rfl⟩;rw[hS]at mf Fo;obtain ⟨T,hT⟩ : ∃ T:List (List Rat),T=ss.map (·.b):=⟨_,rfl⟩;have hTl:T.length=ss.length:=by rw[hT,List.length_map]
 have Xi : ∀ (i:Nat) (s:H2),ss[i]? = some s->T[i]? = some s.b:=λ i s h=>by rw[hT,List.getElem?_map,h];rfl
 have hTr : ∀ r∈T,r.length=S:=λ r hr=>by
  rw[hT]at hr;obtain ⟨s,h,rfl⟩:=List.mem_map.1 hr;rw[(hs s h).bl hn,hS]
 have hTb:Ms 40000 T:=λ r hr=>by
  rw[hT]at hr;obtain ⟨s,h,rfl⟩:=List.mem_map.1 hr;exact (hs s h).bb
 have ta:=λ q q'=>Us N.tov5 q q' T 40000 hTb (by rw[Ae3 hTr,hTl];have:=Nat.mul_le_mul hm (show S<=4 by omega);omega) (by omega) (by omega)
 rw[<-hT]at hE;rw[<-hE]at ta;have hTm:=λ(s:H2) (Dt:s∈ss) (q:Bool)=>Uu N.tov5 q s.b E 40000 960000 (hs s Dt).bb Km (by omega) (by omega) (by have:=(hs s Dt).bl hn;omega)
 have vg : ∀ s∈ss,s.b.length=S:=λ s h=>by rw[(hs s h).bl hn,hS]
 have AD3 : ∀ s∈ss,∀ (j:Nat) (v:Int),n.next[j]? = some v->s.b[j]? = some (s.g.getD v.toNat 0):=λ s h j v hv=>by
  rw[(hs s h).b,wB,List.getElem?_map,hv];rfl
 have Nf : ∀ s∈ss,s.g.length=S+1+n.nodes.length:=λ s h=>by rw[(hs s h).gl,hS]
 have hmz:=AvD ss P;have hmf:=AvC ss P;rw[hS]at hK ⊢;refine Adn ?_;unfold Abf at hX;rcases hX with ⟨rfl,rfl⟩|⟨rfl,rfl⟩|⟨rfl,rfl⟩
 all_goals
  refine N1 1000 N.iJ rfl rfl ?_;(repeat' (apply BL<;>conv=>whnf))
  unfold J9;refine ⟨⟨by omega,by omega,by simp only[NR];omega,by omega⟩,?_⟩;rw[Int.toNat_natCast];(conv=>whnf)
  skip
  refine K4 (λ i=>ss.length-i) (λ(i:Nat)=>i<=ss.length) (λ i=>[(19,.int .i64 i)]) (λ i=>[(355016,355016,.mx (OR S T i))]) [] [] 0 (by rw[AqK,hTl];exact (by (conv=>whnf);exact ⟨rfl,rfl,rfl⟩)) (by omega) ?_;intro i p1 ih;have ng:=AqF (S:=S) (T:=T) (i:=i) (by omega);by_cases hi:i<ss.length
  ·obtain ⟨s,Jm⟩ : ∃ s,ss[i]? = some s:=⟨_,zE hi⟩
   have lz:=zM Jm;have Du:=Xi i s Jm;have AVE:=vg s lz;have AVQ:=Nf s lz;have Xp:=AD3 s lz;have nc:=AqH (S:=S) (T:=T) (i:=i) (by omega);have nr:=λ h0:S≠0=>AqJ h0 Du
   have xq:S=0->OR S T i=OR S T (i+1):=λ h=>by subst h;exact AqI _ _
   generalize OR S T i=R0 at *;(repeat' ((first|(apply B6<;>intro hc<;>try omega)|(apply EL;omega)|apply C9|(refine vW ?_ (λ_=>rfl) (λ v hv => ?_);omega)|apply BL)<;>conv=>whnf))
   cases Jm.symm.trans hv;skip
   rcases Nat.eq_zero_or_pos S with h0|h0
   ·have AEH:=xq h0
    refine NJ ?_;(repeat' ((first|(apply B6<;>intro hc<;>try omega)|(apply DD;omega)|apply BL)<;>conv=>whnf))
    rw[AEH];exact FV [] (ih (i+1) (by omega) (by omega))
   ·have nr:=nr (by omega)
    have tz : ∀ j,j<S -> ∃ (v:Int) (x:Rat),n.next[j]? = some v/\n.next[(j:Int).toNat]? = some v/\0<=v/\s.g[v.toNat]? = some x/\s.b[j]? = some x:=λ j hj=>by
     obtain ⟨v,hv⟩ : ∃ v,n.next[j]? = some v:=⟨_,zE (by omega)⟩
     obtain ⟨h1,h2⟩:=Fo v (zM hv);obtain ⟨x,hx⟩ : ∃ x,s.g[v.toNat]? = some x:=⟨_,zE (by omega)⟩;exact ⟨v,x,hv,hv,h1,hx,by rw[Xp j v hv,Rn hx]⟩
    obtain ⟨v0,x0,q1,q2,q3,q4,q5⟩:=tz 0 h0;have Ib:s.b.take 1=[x0]:=by rw[List.take_add_one,q5];rfl
    clear xq Xp;refine NJ ?_;(repeat' ((first|(apply B6<;>intro hc<;>try omega)|(apply EL;omega)|(refine E4 (by assumption) ?_ rfl ?_;omega)|apply BL)<;>conv=>whnf))
    refine Abi (r:=none) (by rw[Nat.zero_add,Int.toNat_natCast];exact nc) ?_;(conv=>whnf)
    (repeat' ((first|(refine E4 (by assumption) ?_ rfl ?_;omega)|apply KY)<;>conv=>whnf))
    refine qX (enc:=eQ) x0 rfl rfl (by omega) ?_;(conv=>whnf)
    (repeat' ((first|(apply EL;omega)|fail)<;>conv=>whnf))
    refine EL rfl ?_;refine zN (i:=i) (by omega) (by omega) ?_;(conv=>whnf)
    (repeat' ((first|(apply DD;omega)|fail)<;>conv=>whnf))
    refine K4 (λ j=>S-j) (λ(j:Nat)=>1<=j/\j<=S) (λ j=>[(27,.int .i64 j)]) (λ j=>[(355016,355016,.mx (R0.set i (some (3,(s.b.take j).map eQ))))]) [] [] 1 (by first|exact (by (conv=>whnf);exact ⟨rfl,rfl,rfl⟩)|(rw[Ib];exact (by (conv=>whnf);exact ⟨rfl,rfl,rfl⟩))) (by omega) ?_;intro j ⟨r1,r2⟩ jh;by_cases hj:j<S
    ·obtain ⟨v1,x1,e1,e2,e3,e4,e5⟩:=tz j hj
     have o4:=ZR e5;have htj:(s.b.take j).length=j:=by rw[List.length_take];omega
     have Ou:(s.b.take (j+1)).length=j+1:=by rw[List.length_take];omega
     generalize s.b.take j=W at *;(repeat' ((first|(apply B6<;>intro hc<;>try omega)|(apply EL;omega)|(refine E4 (by assumption) ?_ rfl ?_;omega)|apply BL)<;>conv=>whnf))
     refine AhN (by omega) (by omega) ?_;(conv=>whnf)
     (repeat' ((first|(refine E4 (by assumption) ?_ rfl ?_;omega)|apply KY)<;>conv=>whnf))
     refine AhM (by omega) (by omega) ?_;(conv=>whnf)
     refine NL (enc:=eQ) x1 rfl (by rw[List.length_map]) rfl (by omega) (by omega) ?_;intro s' v;rw[<-o4,Ou];(conv=>whnf)
     (repeat' ((first|(apply EL;omega)|fail)<;>conv=>whnf))
     refine EL ⟨rfl,by rw[List.length_map];omega⟩ ?_;refine zN (i:=i) (by omega) (by rw[List.length_set,List.length_set];omega) ?_;rw[show 0+((i:Int)).toNat=i by omega,List.set_set,List.set_set];(conv=>whnf)
     (repeat' ((first|(apply DD;omega)|fail)<;>conv=>whnf))
     exact FV [] (jh (j+1) (by omega) (by omega))
    have ej:j=S:=by omega
    clear jh;rw[ej,zT (by omega),nr];(repeat' ((first|(apply B6<;>intro hc<;>try omega)|(apply DD;omega)|apply BL)<;>conv=>whnf))
    exact FV [] (ih (i+1) (by omega) (by omega))
  have ei:i=T.length:=by omega
  clear ih ng;rw[ei];rcases Nat.eq_zero_or_pos S with h0|h0
  focus
   have hTe : ∀ r∈T,r=[]:=λ r hr=>List.length_eq_zero_iff.1 ((hTr r hr).trans h0)
   have Bz : ∀ q,Ev L 295 [.sl q (List.replicate T.length [.sl false []])] (.agg (eQ E)):=λ q=>by
    have:=ta q false
    rwa [Asy false hTe]at this
   rw[show OR S T T.length=List.replicate T.length none by rw[h0,AqG]];(repeat' ((first|(apply B6<;>intro hc<;>try omega)|apply BL)<;>conv=>whnf))
   refine ApT rfl (by omega) ?_;(conv=>whnf)
   (repeat' (refine BF (Bz _) ?_<;>conv=>whnf))
  rotate_left
  focus
   rw[AqE (by omega)];(repeat' ((first|(apply B6<;>intro hc<;>try omega)|apply BL)<;>conv=>whnf))
   refine pN (λ_=>rfl) rfl hTl.symm ?_;(conv=>whnf)
   (repeat' (refine BF (ta _ _) ?_<;>conv=>whnf))
  all_goals
   refine K4 (λ i=>ss.length-i) (λ(i:Nat)=>i<=ss.length) (λ i=>[(51,.int .i64 i)]) (λ i=>[(356057,356057,.rw 8 (aQ ss P i))]) [] [] 0 (by rw[hmz];exact (by (conv=>whnf);exact ⟨rfl,rfl,rfl⟩)) (by omega) ?_;intro i p1 ih;by_cases hi:i<ss.length
   ·obtain ⟨s,Jm⟩ : ∃ s,ss[i]? = some s:=⟨_,zE hi⟩
    have lz:=zM Jm;have Du:=Xi i s Jm;have hW':=hW s lz;have hP':=hP s;have Nm:=AlJ (P s).1 (P s).2;have hdp:=AmC (T:=(P s).2) hP';have Mk:=hTm s lz;have xu:=λ(K:List (List AV)->Prop)=>ApY (P:=P) (K:=K) Jm
    first
    |(have hbe:s.b=[]:=List.length_eq_zero_iff.1 ((vg s lz).trans (by omega))
      rw[hbe]at hW' Mk;have hTn : ∀ q,Ev L 296 [.sl q [],.agg (eQ E)] (.sl false ((([]:List Rat).map (· * E)).map eQ)):=Mk;(repeat' ((first|(apply B6<;>intro hc<;>try omega)|(apply EL;omega)|apply BL)<;>conv=>whnf))
      refine Abi (r:=none) (by rw[Nat.zero_add,Int.toNat_natCast,List.getElem?_replicate,if_pos (by omega)]) ?_;(conv=>whnf)
      (repeat' ((first|refine BF (hTn _) ?_|refine BF (hW') ?_)<;>conv=>whnf)))
    |((repeat' ((first|(apply B6<;>intro hc<;>try omega)|(apply EL;omega)|(refine J2 (λ_=>rfl) rfl ?_ ?_;(first|rfl|simp))|(refine ApB ?_ (λ r hr => ?_);omega)|refine Apx (by assumption) ?_|apply BL)<;>conv=>whnf))
      cases Du.symm.trans hr;(repeat' ((first|refine BF (Mk _) ?_|refine BF (hW') ?_)<;>conv=>whnf)))
    refine AhE hdp trivial ?_;rw[Nm];(conv=>whnf)
    refine EL (by omega) ?_;(conv=>whnf)
    refine xu _ ?_;(conv=>whnf)
    (repeat' ((first|(apply DD;omega)|fail)<;>conv=>whnf))
    exact FV [] (ih (i+1) (by omega) (by omega))
   have ei:i=ss.length:=by omega
   clear ih;rw[ei,hmf];(repeat' ((first|(apply B6<;>intro hc<;>try omega)|apply BL)<;>conv=>whnf))
   refine ⟨rfl,?_⟩;(conv=>whnf)
   refine ⟨_,?_,hK⟩;first|exact ⟨rfl,rfl,rfl,rfl,rfl,rfl,rfl,trivial⟩|exact ⟨rfl,rfl,rfl,rfl,rfl,rfl,rfl,rfl,trivial⟩
def W7 (n:Nt) (p:Nat) (D E:Rat) (s:H2):List (List Rat) × Rat:=((List.range (p+p)).map (JL (aN n) s.b D E),LV D (λ m=>H9 (JL (aN n) s.b D E (p+m))) p)
theorem Awh {n:Nt} {p:Nat} (hp:1<=p) (D E:Rat) (s:H2):(W7 n p D E s).1≠[]:=by
 intro e;have:=congrArg List.length e
 simp [W7]at this;omega
theorem Aw1 {x:Rat} (h:0<x):0<w3 x.num:=by
 have:=(mO (x:=x) (y:=0)).2 h
 rwa [Rat.sub_eq_add_neg,Rat.neg_zero,Rat.add_zero]at this
theorem Aw0 {x:Rat} (h : ¬ 0<x):w3 x.num<=0:=by
 refine Int.not_lt.1 λ h2=>h ((mO (x:=x) (y:=0)).1 ?_)
 rwa [Rat.sub_eq_add_neg,Rat.neg_zero,Rat.add_zero]
abbrev xW (n:Nt) (p:Nat) (D E:Rat):Mem :=
 [(356004,356004,.bx [.row 356017 0 1 0 n.s.toNat]),(356017,356017,.mx (LW 3 eQ (MN n))),(356009,356009,.bx (S0 false (HP D (aN n)) D (p:Int) (D^(p+p-1)))),(356014,356014,.bx (eQ E)),(356011,356011,.bx [.row 356057 0 8 0 (cn n).length]),(356057,356057,.rw 8 ((cn n).map (aA true (W7 n p D E))))]
theorem AdN (I:e8 L) (N:s8 L) (n:Nt) (hn:IU n) (X:Mem) (ks:List Nat) (sc:Nat) (hX:Abf n sc X ks) (K:AV->Mem->Prop)
  (h1 : ∀ i,i<=6->OQ n.s.toNat (aN n) i->K (.j5 [.fn false 354 (L.num 354) [.ptr 356004 0 0 0,.ptr 356009 0 0 0,.ptr 356014 0 0 0,.ptr 356011 0 0 0],.int .i64 0]) (X++xW n (2^i) (PO (aN n).flatten) (wL n)))
  (h2:(∀ j,j<=6->KR (HW n.s.toNat (aN n) j)=false)->K (.j5 [.gx .nilFunc,.int .i64 14]) X) :
  EU L 356 [.agg (HV n)] (tmK ks) X K:=by
 obtain ⟨mf,Fo⟩:=Acj hn;have o4:=hn.st;have Fl:=hn.nl;have Fk:=(J6 n).1 hn.jb;obtain ⟨_,_,⟨Ac,_⟩,_⟩:=Fk;obtain ⟨S,hS⟩ : ∃ S:Nat,n.s=(S:Int):=⟨n.s.toNat,by omega⟩;have wk:n.s.toNat=S:=by omega
 have hGR : ∀ j:Nat,j<S->aH L 351 [.agg (HV n),.int .i64 (1+(j:Int))] 3 ((OY n (1+j)).map eQ):=λ j hj=>by
  have:=Atb N n (1+j) hn (by omega)
  rwa [show ((1+j:Nat):Int)=1+(j:Int) by omega]at this
 have hG0:Ev L 351 [.agg (HV n),.int .i64 0] (.sl false ((OY n 0).map eQ)):=AjG N n 0 hn (by omega);have hGk : ∀ k:Nat,k<n.nodes.length->Ev L 351 [.agg (HV n),.int .i64 (1+n.s+(k:Int))] (.sl false ((OY n (1+S+k)).map eQ)):=λ k hk=>by
  have:=AjG N n (1+S+k) hn (by omega)
  rwa [show ((1+S+k:Nat):Int)=1+n.s+(k:Int) by omega]at this
 have Nf:=Ab4 hn;rw[wk]at Nf;have zq:=PW N.toa7 1 (by omega);rw[show ((1:Int):Rat)=1 from rfl]at zq;have ag:=AbI n;rw[wk]at ag;have Xt:=λ(j:Nat) (hj:j<S)=>Arm (n:=n) (j:=j) (by omega)
 obtain ⟨v,Mj,hv⟩:=Aj1 N.tov5 true false (aN n) S 40000 (by have:=pP hn;rwa [wk]at this) (Abv hn) (by omega) (by omega);have hRw:=λ(v:Nat) (hv:v<S+1+n.nodes.length) (q q':Bool)=>Aj0 N q q' (MN n) v (by omega) (λ c hc=>by have:=AiO hn c hc;omega)
 rw[wk]at h1 h2 Fo mf;have oy:(aN n).length=S:=by rw[(pP hn).l,wk]
 have hsq:=pP hn;rw[wk]at hsq;obtain ⟨D,E,Bd,wy,Wr,hE0,Ef,Km,hDm,ot⟩:=Anl hn;generalize hC:MN n=C at *;have Ie:=λ p hW hP K hK=>AqX N n hn X ks sc hX (HP (D:Rat) (aN n)) (D:Rat) ((D:Rat)^(p+p-1)) (E:Rat) p C (cn n) (W7 n p D E) (yR hn) (AnC hn).2 wy.symm Km hW hP K hK
 rw[wk]at Ie;refine Adn ?_;unfold Abf at hX;rcases hX with ⟨rfl,rfl⟩|⟨rfl,rfl⟩|⟨rfl,rfl⟩
 all_goals
  refine P8 1000 N.gV rfl rfl ?_;(repeat' (apply BL<;>conv=>whnf))
  unfold J9;refine ⟨⟨by omega,by omega,by simp only[NR];omega,by omega⟩,?_⟩;rw[wk];(conv=>whnf)
  skip
  refine K4 (λ i=>S-i) (λ(i:Nat)=>i<=S) (λ i=>[(20,.int .i64 i)]) (λ i=>[(356017,356017,.mx (mz C S i))]) [] [] 0 (by rw[AfO];exact (by (conv=>whnf);exact ⟨rfl,rfl,rfl⟩)) (by omega) ?_;intro i p1 ih;have Kb:=AfL (Q:=C) p1;by_cases hi:i<S
  ·have o4:=AfN (Xt i hi) hi
   have hG:=hGR i hi;generalize mz C S i=R0 at *;(repeat' ((first|(apply B6<;>intro hc<;>try omega)|(apply DD;omega)|apply BL)<;>conv=>whnf))
   refine vR (enc:=eQ) (S+1+n.nodes.length) hG (Nf _).symm ?_;(conv=>whnf)
   (repeat' ((first|(apply EL;omega)|fail)<;>conv=>whnf))
   refine EL (by rw[List.length_map,Nf]) ?_;refine zN (i:=i) (by omega) (by omega) ?_;rw[o4];(conv=>whnf)
   (repeat' ((first|(apply DD;omega)|fail)<;>conv=>whnf))
   exact FV [] (ih (i+1) (by omega) (by omega))
  have ei:i=S:=by omega
  clear ih;rw[ei,AfK (by omega)];(repeat' ((first|(apply B6<;>intro hc<;>try omega)|apply C9|apply BL)<;>conv=>whnf))
  refine K4 (λ j=>S-j) (λ(j:Nat)=>j<=S) (λ j=>[(34,.int .i64 j),(6,.row 356006 0 1 0 j)]) (λ j=>[(356006,356006,.rw 1 (((aN n).take j).map λ r=>[AV.sl false (r.map eQ)]))]) [] [] 0 (by rw[List.take_zero];exact (by (conv=>whnf);exact ⟨rfl,rfl,rfl⟩)) (by omega) ?_;intro j r1 jh;by_cases hj:j<S
  ·obtain ⟨w,hw⟩ : ∃ w:Nat,n.next[j]? = some (w:Int):=by
    obtain ⟨v,hv⟩ : ∃ v,n.next[j]? = some v:=⟨_,zE (by omega)⟩
    have:=(Fo v (zM hv)).1
    exact ⟨v.toNat,by rw[hv];congr 1;omega⟩
   have hw':n.next[(j:Int).toNat]? = some (w:Int):=hw
   have hwl:=(Fo w (zM hw)).2;have hR:=hRw w (by omega);have haj:(aN n)[j]? = some (L6 C w):=by rw[aN,List.getElem?_map,hw,hC];rfl
   have te:((aN n).take j).length=j:=by rw[List.length_take];omega
   have AEN:((aN n).take (j+1)).length=j+1:=by rw[List.length_take];omega
   have vy:=ZR haj;generalize (aN n).take j=W at *;(repeat' ((first|(apply B6<;>intro hc<;>try omega)|(refine E4 (by assumption) ?_ rfl ?_;omega)|apply BL)<;>conv=>whnf))
   refine pN (λ_=>rfl) rfl ag.symm ?_;(conv=>whnf)
   (repeat' ((first|apply KY|refine BF (hR _ _) ?_)<;>conv=>whnf))
   refine NL (l:=W) (z:=1) (bytes:=24) (enc:=λ r:List Rat=>[AV.sl false (r.map eQ)]) (L6 C w) rfl te.symm rfl (by omega) (by omega) ?_;(conv=>whnf)
   rw[<-vy,AEN];(repeat' ((first|(apply DD;omega)|fail)<;>conv=>whnf))
   exact FV [(356006,356043)] (jh (j+1) (by omega) (by omega))
  have ej:j=S:=by omega
  clear jh;rw[ej,zT (by omega)];(repeat' ((first|(apply B6<;>intro hc<;>try omega)|apply BL)<;>conv=>whnf))
  refine J2 (enc:=λ r:List Rat=>[AV.sl false (r.map eQ)]) (λ_=>rfl) rfl oy.symm ?_;(conv=>whnf)
  rcases hv with ⟨i,i1,i2,rfl⟩|⟨nc,rfl⟩
  ·obtain ⟨g1,_,g3⟩:=cT i1
   have Bv:=h1 i i1 i2;clear h1 h2 hRw hGR Xt;rw[Bd]at Mj Bv;rw[wy]at Bv;generalize 2^i=p at *;(repeat' ((first|(apply B6<;>intro hc<;>try omega)|apply C9|refine BF (Mj) ?_|refine BF (hG0) ?_|refine BF (zq) ?_)<;>conv=>whnf))
   have hWk : ∀ s∈cn n,Ev L 304 [.agg (S0 false (HP (D:Rat) (aN n)) (D:Rat) (p:Int) ((D:Rat)^(p+p-1))),.sl false ((s.b.map (· * (E:Rat))).map eQ)] (.agg (rL (W7 n p D E s).1 (W7 n p D E s).2)):=λ s hs=>by
    have:=Aj3 N.tov5 false (HP (D:Rat) (aN n)) (D:Rat) ((D:Rat)^(p+p-1)) (JL (aN n) s.b D E) S p 680000 640000 90000000 (AgG _ hsq) hDm Ef (ot s hs) (λ j=>by rw[JL,List.length_map,Adb oy ((yR hn s hs).bl hn |>.trans wk)]) (Adc _ _ _ _) (by omega) ⟨g3,g1⟩ (by omega) (by omega) (by omega)
    rwa [Add]at this
   have ADK:=Awh (n:=n) g3 (D:Rat) (E:Rat);refine K7 (λ k=>n.nodes.length-k) (λ(k:Nat)=>k<=n.nodes.length) (λ k=>[(61,.int .i64 k)]) (λ k=>[(356011,356011,.bx [.row 356057 0 8 0 (MC n 0 1::J7 n k).length]),(356057,356057,.rw 8 ((MC n 0 1::J7 n k).map (aA false (W7 n p D E))))]) 0 (by omega) ?_;intro k k1 kh;have te:=AcZ n k;have vy:=AgY n k;by_cases hk:k<n.nodes.length
   ·obtain ⟨nd,hnd⟩ : ∃ nd,n.nodes[k]? = some nd:=⟨_,zE hk⟩
    have Io:n.nodes[(k:Int).toNat]? = some nd:=hnd;have hLv:=AjO N n hn k nd hnd;have Hv:=xF N.toa7 (rY n nd).1 (by omega);have hgk:=hGk k hk;rw[yP,hnd]at vy;by_cases hp:0<KH n nd
    ·have yq:=Aw1 hp
     simp only[if_pos hp,Option.toList_some]at vy;generalize hls:MC n 0 1::J7 n k=ls at *;have na:(MC n 0 1::J7 n (k+1))=ls++[MC n (1+n.s.toNat+k) (KH n nd)]:=by rw[vy,<-hls];rfl
     have Ff:ls.length<=6:=by rw[<-hls,List.length_cons];omega
     have pc:(MC n 0 1::J7 n (k+1)).length=ls.length+1:=by rw[na,List.length_append];rfl
     (repeat' ((first|(apply B6<;>intro hc<;>try omega)|(apply DD;omega)|apply KY|apply BL|refine BF (hLv) ?_|refine BF (Hv) ?_|refine BF (hgk) ?_)<;>conv=>whnf))
     refine NL (l:=ls) (z:=8) (bytes:=160) (enc:=aA false (W7 n p D E)) (MC n (1+n.s.toNat+k) (KH n nd)) (by rw[wk];rfl) rfl rfl (by omega) (by omega) ?_;(conv=>whnf)
     rw[<-na];(repeat' ((first|(apply DD;omega)|fail)<;>conv=>whnf))
     exact FV [(356057,356081)] (kh (k+1) (by omega) (by omega))
    ·have yq:=Aw0 hp
     simp only[if_neg hp,Option.toList_none,List.append_nil]at vy;(repeat' ((first|(apply B6<;>intro hc<;>try omega)|(apply DD;omega)|apply BL|refine BF (hLv) ?_|refine BF (Hv) ?_)<;>conv=>whnf))
     rw[<-vy];exact FV [] (kh (k+1) (by omega) (by omega))
   have ek:k=n.nodes.length:=by omega
   clear kh;rw[ek,show MC n 0 1::J7 n n.nodes.length=cn n from rfl];have Ie:=λ K hK=>Ie p hWk ADK K hK
   unfold xW at Bv;rw[wk,hC]at Bv;(repeat' ((first|(apply B6<;>intro hc<;>try omega)|apply BL)<;>conv=>whnf))
   refine sU _ _ ?_ ?_ (Ie _ ?_)
   ·first|exact ⟨rfl,rfl,rfl,rfl,rfl,rfl,rfl,trivial⟩|exact ⟨rfl,rfl,rfl,rfl,rfl,rfl,rfl,rfl,trivial⟩
   ·rfl
   (conv=>whnf)
   skip
   refine ⟨rfl,_,rfl,?_⟩;(conv=>whnf)
   refine ⟨_,?_,Bv⟩;first|exact ⟨rfl,rfl,rfl,rfl,rfl,rfl,rfl,trivial⟩|exact ⟨rfl,rfl,rfl,rfl,rfl,rfl,rfl,rfl,trivial⟩
  ·(repeat' ((first|(apply B6<;>intro hc<;>try omega)|refine BF (Mj) ?_)<;>conv=>whnf))
   refine ⟨rfl,_,rfl,?_⟩;(conv=>whnf)
   refine ⟨_,?_,h2 nc⟩;first|exact ⟨rfl,trivial⟩|exact ⟨rfl,rfl,trivial⟩
def XU (n:Nt) (p:Nat) (D E:Rat) (cO:List Rat) (s:H2):Rat:=LV D (λ j=>G1 (GG cO (JL (aN n) s.b D E j))) (p+p)+FY cO*(W7 n p D E s).2
theorem Aub {n:Nt} {p v:Nat} {D E O:Rat} (hp:1<=p) (hD:0<D) (hE:0<E) (hO:0<O) (s:H2) :
  s.l*G1 (s.g.getD v 0)+s.l*XU n p D E ((L6 (MN n) v).map (· * O)) s/(D^(p+p-1)*(E*O))=s.l*M4 (X9 n s v) p:=by
 have:=An8 (S:=X9 n s v) hp hD hE hO
 have e:XU n p D E ((L6 (MN n) v).map (· * O)) s/(D^(p+p-1)*(E*O))=PP (YV (X9 n s v).a (X9 n s v).b (X9 n s v).c) (p+p)+FY (X9 n s v).c*PP (λ j=>cK (X9 n s v).a (X9 n s v).b (p+j)) p:=this;rw[show s.l*XU n p D E ((L6 (MN n) v).map (· * O)) s/(D^(p+p-1)*(E*O))=s.l*(XU n p D E ((L6 (MN n) v).map (· * O)) s/(D^(p+p-1)*(E*O))) by rw[Rat.div_def,Rat.div_def,Rat.mul_assoc],e,<-Rat.mul_add,M4];rfl
theorem AdV (N:s8 L) (n:Nt) (hn:IU n) (i:Nat) (hi:i<=6) (w:Nat) (hv:w<n.s.toNat+1+n.nodes.length) (X:Mem) (ks:List Nat) (s1:Nat) (h:Rat) (hX:(X=[(1,s1,.bx (HV n))]/\ks=[1])\/(X=[(1,s1,.bx (HV n)),(6,6,.bx (eQ h))]/\ks=[1,6])\/X=[(3,s1,.bx (HV n)),(6,6,.bx [.bool false,.nil,.nil])]/\ks=[3,6]) (K:AV->Mem->Prop)
  (hK:Bt 400000000000 (MP n (2^i) w)->Bt 400000000000 (LZ n (2^i) w)->K (.agg (eQ (MP n (2^i) w)++eQ (LZ n (2^i) w))) (X++xW n (2^i) (PO (aN n).flatten) (wL n))) :
  EU L 354 [.int .i64 (w:Int),.ptr 356004 0 0 0,.ptr 356009 0 0 0,.ptr 356014 0 0 0,.ptr 356011 0 0 0] (tmK (ks++[356004,356009,356014,356011])) (X++xW n (2^i) (PO (aN n).flatten) (wL n)) K:=by
 have o4:=hn.st;have Fl:=hn.nl;obtain ⟨_,_,⟨Ac,_⟩,_⟩:=(J6 n).1 hn.jb;obtain ⟨S,hS⟩ : ∃ S:Nat,n.s.toNat=S:=⟨_,rfl⟩;obtain ⟨g1,_,g3⟩:=cT hi;obtain ⟨D,E,Bd,wy,Wr,hE0,Ef,Km,hDm,ot⟩:=Anl hn;have Nf:=Ab4 hn;have hRw:=λ(q q':Bool)=>Aj0 N q q' (MN n) w (by rw[AbI];omega) (λ c hc=>by have:=AiO hn c hc;omega)
 have ag:=AbI n;have Pu:=Agp n w;have wx:=Agn hn w;have Bz:=λ q=>Us N.tov5 q false [L6 (MN n) w] 40000 (λ r hr=>by obtain rfl:=List.mem_singleton.1 hr;exact wx) (by rw[Vo];omega) (by simp) (by omega)
 rw[Vo]at Bz;obtain ⟨O,Wj,o1,o2,o3⟩:=Rs Pu wx;have bO:Bt 160000 (O:Rat):=(uM o2).le (by have:=zR 40000 (show n.s.toNat<=4 by omega);omega);have hcO:Bs 200000 ((L6 (MN n) w).map (· * (O:Rat))):=λ x hx=>((o3 x hx).le (by have:=zR 40000 (show n.s.toNat<=4 by omega);omega)).bt
 have hval:=λ s=>Aub (n:=n) (p:=2^i) (v:=w) g3 (oH Wr) (oH hE0) (oH o1) s
 have hvr:MP n (2^i) w=(0+(MC n 0 1).l*G1 ((MC n 0 1).g.getD w 0))+(0+(MC n 0 1).l*XU n (2^i) D E ((L6 (MN n) w).map (· * (O:Rat))) (MC n 0 1))/((D:Rat)^(2^i+2^i-1)*((E:Rat)*(O:Rat))):=by
  have:=hval (MC n 0 1)
  rw[Rat.zero_add,Rat.zero_add,this,show (MC n 0 1).l=1 from rfl,Rat.one_mul];rfl
 have mi:LZ n (2^i) w=fj (λ s=>s.l*G1 (s.g.getD w 0)) (J7 n n.nodes.length)+fj (λ s=>s.l*XU n (2^i) D E ((L6 (MN n) w).map (· * (O:Rat))) s) (J7 n n.nodes.length)/((D:Rat)^(2^i+2^i-1)*((E:Rat)*(O:Rat))):=by
  rw[Avx];exact Avw λ s _=>(hval s).symm
 have hpD:=oH Wr;have hpE:=oH hE0;have hpO:=oH o1;rw[Bd,wy]at hK ⊢;rw[Wj]at Bz;clear Wj Bd wy o1 o2 o3 hval;generalize hp:2^i=p at *;generalize (D:Rat)=D at *;generalize (E:Rat)=E at *;generalize (O:Rat)=O at *;have hTc:=λ q=>Uu N.tov5 q (L6 (MN n) w) O 40000 160000 wx bO (by omega) (by omega) (by omega)
 have AD6:((L6 (MN n) w).map (· * O)).length=S:=by rw[List.length_map,Pu,hS]
 generalize hcd:(L6 (MN n) w).map (· * O)=cO at *;have di : ∀ s∈cn n,Bt 60000000000 (XU n p D E cO s)/\Bt 6000000000 (W7 n p D E s).2:=λ s hs=>by
  have q1 : ∀ j,j<p+p->Bt (4*(200000+90000000+1)) (G1 (GG cO (JL (aN n) s.b D E j))):=λ j hj=>RR ((hcO.dot (ot s hs j (by omega))).le (zR _ (by omega)))
  have q2:=(uH Ef (p+p) q1).le (zR _ (show p+p<=128 by omega));have q3:Bt (4*(200000+1)) (FY cO):=(oQ hcO).le (zR _ (by omega));have q4:Bt 6000000000 (W7 n p D E s).2:=(uH Ef p λ j hj=>oD (ot s hs (p+j) (by omega))).le (by
   have:=zR (640000+90000000+1) g1
   omega)
  exact ⟨(q2.add (q3.mul q4)).le (by omega),q4⟩
 have hGt : ∀ s∈cn n,∀ q,Ev L 305 [.agg (S0 false (HP D (aN n)) D (p:Int) (D^(p+p-1))),.sl q (cO.map eQ),.agg (.sl true (pV (W7 n p D E s).1)::YR true (W7 n p D E s).2)] (.agg (eQ (XU n p D E cO s))):=λ s hs q =>
  AjZ N.tov5 false q (HP D (aN n)) D (W7 n p D E s).2 (D^(p+p-1)) (p:Int) cO (JL (aN n) s.b D E) S (p+p) 640000 200000 90000000 6000000000 Ef hcO AD6 (ot s hs) (λ j=>by rw[JL,List.length_map,Adb (pP hn).l ((yR hn s hs).bl hn),hS]) (di s hs).2 (by omega) (by omega) (by omega) (by omega) (by omega) (by omega)
 have ur:=yR hn;have hsT : ∀ s∈J7 n n.nodes.length,s∈cn n:=λ s hs=>List.mem_cons_of_mem _ hs
 have hTl:=AcZ n n.nodes.length;have vg:Bt 82000000 (D^(p+p-1)):=(Acw Ef _).le (by
  have:=zR 640000 (show p+p-1<=127 by omega)
  omega)
 have nx:=XT N.toa7 Km bO (by omega) (by omega);have sf:=XT N.toa7 vg (Km.mul bO) (by omega) (by omega);have Ic:Bt 84000000 (D^(p+p-1)*(E*O)):=(vg.mul (Km.mul bO)).le (by omega);have u5:D^(p+p-1)*(E*O)≠0:=by
  have Od : ∀ j:Nat,0<D^j:=λ j=>by
   induction j with
   | zero=>rw[Rat.pow_zero];decide
   | succ j ih=>rw[Rat.pow_succ];exact Rat.mul_pos ih hpD
  have:=Rat.mul_pos (Od (p+p-1)) (Rat.mul_pos hpE hpO)
  grind
 have Dd:=PW N.toa7 0 (by omega);rw[show ((0:Int):Rat)=0 from rfl]at Dd;have hx : ∀ s∈cn n,s.g[((w:Nat):Int).toNat]? = some (s.g.getD w 0):=λ s hs=>by
  have h1:=(ur s hs).gl;obtain ⟨x,hx⟩ : ∃ x,s.g[w]? = some x:=⟨_,zE (by omega)⟩;rw[Rn hx];exact hx
 have hAb:=λ(s:H2) (hs:s∈cn n)=>Uh N.tofp (xL (ur s hs).gb w) (by omega)
 have hML:=λ(s:H2) (hs:s∈cn n)=>XT N.toa7 (ur s hs).lb (RR (xL (ur s hs).gb w)) (by omega) (by omega)
 have hMG:=λ(s:H2) (hs:s∈cn n)=>XT N.toa7 (ur s hs).lb (di s hs).1 (by omega) (by omega)
 have Ei : ∀ s∈cn n,Bt 40001 (s.l*G1 (s.g.getD w 0)):=λ s hs=>((ur s hs).lb.mul (RR (xL (ur s hs).gb w))).le (by omega)
 have Xr : ∀ s∈cn n,Bt 60000000001 (s.l*XU n p D E cO s):=λ s hs=>((ur s hs).lb.mul (di s hs).1).le (by omega)
 have Wl:=λ(s:H2) (hs:s∈cn n)=>YT N.toa7 (Bt.zero 1) (Ei s hs) (by omega) (by omega)
 have Wo:=λ(s:H2) (hs:s∈cn n)=>YT N.toa7 (Bt.zero 1) (Xr s hs) (by omega) (by omega)
 have Pr : ∀ t,Bt 300000 (fj (λ s=>s.l*G1 (s.g.getD w 0)) ((J7 n n.nodes.length).take t)):=λ t=>(AlV λ s hs=>Ei s (hsT s (List.mem_of_mem_take hs))).le (by
  have:=zR (40001+1) (show ((J7 n n.nodes.length).take t).length<=5 by rw[List.length_take];omega)
  omega)
 have hbG : ∀ t,Bt 301000000000 (fj (λ s=>s.l*XU n p D E cO s) ((J7 n n.nodes.length).take t)):=λ t=>(AlV λ s hs=>Xr s (hsT s (List.mem_of_mem_take hs))).le (by
  have:=zR (60000000001+1) (show ((J7 n n.nodes.length).take t).length<=5 by rw[List.length_take];omega)
  omega)
 have Wn:=λ(s:H2) (hs:s∈cn n) (t:Nat)=>YT N.toa7 (Pr t) (Ei s hs) (by omega) (by omega)
 have Wp:=λ(s:H2) (hs:s∈cn n) (t:Nat)=>YT N.toa7 (hbG t) (Xr s hs) (by omega) (by omega)
 have om:MC n 0 1∈cn n:=List.mem_cons_self;have Bi:(cn n)[(0:Int).toNat]? = some (MC n 0 1):=rfl;have hqt : ∀ (t:Nat) (s:H2),(J7 n n.nodes.length)[t]? = some s->(cn n)[((t+1:Nat):Int).toNat]? = some s:=λ t s h=>h
 have hsl:(cn n).length=(J7 n n.nodes.length).length+1:=rfl;have hF0:=λ l=>(rfl:fj (λ s=>s.l*G1 (s.g.getD w 0)) (List.take 0 l)=0)
 have hG0:=λ l=>(rfl:fj (λ s=>s.l*XU n p D E cO s) (List.take 0 l)=0)
 have hFt:=λ(t:Nat) (s:H2) (h:(J7 n n.nodes.length)[t]? = some s)=>Aca (f:=λ s=>s.l*G1 (s.g.getD w 0)) h
 have ADE:=λ(t:Nat) (s:H2) (h:(J7 n n.nodes.length)[t]? = some s)=>Aca (f:=λ s=>s.l*XU n p D E cO s) h
 have td:=(Bt.zero 1).add (Ei _ om);have hw0:=(Bt.zero 1).add (Xr _ om);have hFe:=Pr (J7 n n.nodes.length).length;have hGe:=hbG (J7 n n.nodes.length).length;have Ws:=AbU N.toa7 hw0 Ic (by omega) (by omega) u5;have Hs:=YT N.toa7 td (hw0.zj Ic) (by omega) (by omega);have Ma:=AbU N.toa7 hGe Ic (by omega) (by omega) u5;have Ht:=YT N.toa7 hFe (hGe.zj Ic) (by omega) (by omega);have hBr:=(td.add (hw0.zj Ic)).le (show _<=400000000000 by omega);have hBs:=(hFe.add (hGe.zj Ic)).le (show _<=400000000000 by omega);rw[List.take_length]at Ma Ht hBs;rw[<-hvr]at hBr Hs;rw[<-mi]at hBs Ht;have hK':=hK hBr hBs;obtain ⟨xa,hxa⟩ : ∃ xa:H2->Rat,∀ s,xa s=G1 (s.g.getD w 0):=⟨_,λ_=>rfl⟩;obtain ⟨xm,Qn⟩ : ∃ xm:H2->Rat,∀ s,xm s=s.l*G1 (s.g.getD w 0):=⟨_,λ_=>rfl⟩;obtain ⟨ga,hga⟩ : ∃ ga:H2->Rat,∀ s,ga s=XU n p D E cO s:=⟨_,λ_=>rfl⟩;obtain ⟨gm,hgm⟩ : ∃ gm:H2->Rat,∀ s,gm s=s.l*XU n p D E cO s:=⟨_,λ_=>rfl⟩;obtain ⟨F,hF⟩ : ∃ F:Nat->Rat,∀ t,F t=fj (λ s=>s.l*G1 (s.g.getD w 0)) ((J7 n n.nodes.length).take t):=⟨_,λ_=>rfl⟩;obtain ⟨G,hG⟩ : ∃ G:Nat->Rat,∀ t,G t=fj (λ s=>s.l*XU n p D E cO s) ((J7 n n.nodes.length).take t):=⟨_,λ_=>rfl⟩;have e1 : ∀ s∈cn n,Ev L 256 [.agg (eQ (s.g.getD w 0))] (.agg (eQ (xa s))):=λ s hs=>by rw[hxa];exact hAb s hs
 have e2 : ∀ s∈cn n,Ev L 99 [.agg (eQ s.l),.agg (eQ (xa s))] (.agg (eQ (xm s))):=λ s hs=>by rw[hxa,Qn];exact hML s hs
 have e4 : ∀ s∈cn n,∀ q,Ev L 305 [.agg (S0 false (HP D (aN n)) D (p:Int) (D^(p+p-1))),.sl q (cO.map eQ),.agg (.sl true (pV (W7 n p D E s).1)::YR true (W7 n p D E s).2)] (.agg (eQ (ga s))):=λ s hs q=>by rw[hga];exact hGt s hs q
 have e5 : ∀ s∈cn n,Ev L 99 [.agg (eQ s.l),.agg (eQ (ga s))] (.agg (eQ (gm s))):=λ s hs=>by rw[hga,hgm];exact hMG s hs
 have e3 : ∀ s∈cn n,∀ t,(J7 n n.nodes.length)[t]? = some s->Ev L 98 [.agg (eQ (F t)),.agg (eQ (xm s))] (.agg (eQ (F (t+1)))):=λ s hs t h=>by
  rw[hF,hF,Qn,Aca h];exact Wn s hs t
 have e6 : ∀ s∈cn n,∀ t,(J7 n n.nodes.length)[t]? = some s->Ev L 98 [.agg (eQ (G t)),.agg (eQ (gm s))] (.agg (eQ (G (t+1)))):=λ s hs t h=>by
  rw[hG,hG,hgm,Aca h];exact Wp s hs t
 have z3:=Wl _ om;have z6:=Wo _ om;rw[<-Qn]at z3 Hs;rw[<-hgm]at z6 Ws Hs;have Wt:F (J7 n n.nodes.length).length=fj (λ s=>s.l*G1 (s.g.getD w 0)) (J7 n n.nodes.length):=by rw[hF,List.take_length]
 have Md:G (J7 n n.nodes.length).length=fj (λ s=>s.l*XU n p D E cO s) (J7 n n.nodes.length):=by rw[hG,List.take_length]
 rw[<-Wt,<-Md]at Ht;rw[<-Md]at Ma;have ADw:F 0=0:=by rw[hF];rfl
 have ADD:G 0=0:=by rw[hG];rfl
 clear hK hBr hBs Pr hbG Ei Xr di td hw0 hFe hGe hvr mi ot hcO wx Ef Km hDm Ic vg bO hAb hML hMG Wn Wp hGt Wl Wo hF hG hxa Qn hga hgm hF0 hG0 hFt ADE Wt Md u5 hpD hpE hpO;obtain ⟨P,hP⟩ : ∃ P:H2->List (List Rat) × Rat,P=W7 n p D E:=⟨_,rfl⟩;rw[<-hP]at e4;unfold xW at hK' ⊢;rw[<-hP]at hK' ⊢;clear hP;generalize 0+xm (MC n 0 1)=r0 at *;generalize 0+gm (MC n 0 1)=w0 at *;generalize D^(p+p-1)*(E*O)=dv at *;generalize w0/dv=q0 at *;generalize G (J7 n n.nodes.length).length/dv=q1 at *;generalize E*O=EO at *;generalize MP n p w=ra at *;generalize LZ n p w=rb at *;generalize D^(p+p-1)=la at *;generalize hTT:J7 n n.nodes.length=T at *;generalize hSS:cn n=SS at *;generalize MC n 0 1=s0 at *;generalize L6 (MN n) w=cw at *;clear ur hcd Nf;refine Adn ?_;rcases hX with ⟨rfl,rfl⟩|⟨rfl,rfl⟩|⟨rfl,rfl⟩
 all_goals
  refine N1 1000 N.hJ rfl rfl ?_;(repeat' (apply BL<;>conv=>whnf))
  refine pN (λ_=>rfl) rfl ag.symm ?_;(conv=>whnf)
  (repeat' ((first|refine N9 rfl ?_|refine BF (hRw _ _) ?_|refine BF (Bz _) ?_|refine BF (hTc _) ?_|refine BF (nx) ?_|refine BF (sf) ?_|refine BF (Dd) ?_)<;>conv=>whnf))
  refine NJ ?_;(repeat' ((first|(apply B6<;>intro hc<;>try omega)|(apply EL;omega)|(refine AhQ ?_ (λ_=>rfl) (λ v hv => ?_);omega)|apply BL)<;>conv=>whnf))
  cases Bi.symm.trans hv;have Am:=hx _ om;have f1:=e1 _ om;have f2:=e2 _ om;have f4:=e4 _ om;have f5:=e5 _ om;(repeat' ((first|(apply EL;omega)|(apply DD;omega)|(refine E4 (by assumption) ?_ rfl ?_;omega)|refine BF (f1) ?_|refine BF (f2) ?_|refine BF (z3) ?_|refine BF (f4 _) ?_|refine BF (f5) ?_|refine BF (z6) ?_)<;>conv=>whnf))
  clear f1 f2 f4 f5;refine K4 (λ t=>T.length-t) (λ(t:Nat)=>t<=T.length) (λ t=>[(41,.int .i64 (t+1:Nat))]) (λ t=>[(354010,354010,.bx (eQ r0++eQ (F t))),(354011,354011,.bx (eQ w0++eQ (G t)))]) [] [] 0 (by rw[ADw,ADD];exact (by (conv=>whnf);exact ⟨rfl,rfl,rfl⟩)) (by omega) ?_;intro t t1 th;by_cases ht:t<T.length
  ·obtain ⟨s,hs⟩ : ∃ s,T[t]? = some s:=⟨_,zE ht⟩
   have Yt:=hqt t s hs;have lz:=hsT s (zM hs);have Am:=hx _ lz;have f1:=e1 _ lz;have f2:=e2 _ lz;have f3:=e3 _ lz t hs;have f4:=e4 _ lz;have f5:=e5 _ lz;have f6:=e6 _ lz t hs;have th':=th (t+1) (by omega) (by omega);clear th;rcases Nat.eq_zero_or_pos t with rfl|ht0
   all_goals
    (repeat' ((first|(apply B6<;>intro hc<;>try omega)|(apply EL;omega)|(refine vW ?_ (λ_=>rfl) (λ v hv => ?_);omega)|apply BL)<;>conv=>whnf))
    cases Yt.symm.trans hv;(repeat' ((first|(apply EL;omega)|(apply DD;omega)|(refine E4 (by assumption) ?_ rfl ?_;omega)|refine BF (f1) ?_|refine BF (f2) ?_|refine BF (f3) ?_|refine BF (f4 _) ?_|refine BF (f5) ?_|refine BF (f6) ?_)<;>conv=>whnf))
    exact GF [] (by (conv=>whnf);exact ⟨rfl,rfl,rfl⟩) th'
  have et:t=T.length:=by omega
  clear th;rw[et];(repeat' ((first|(apply B6<;>intro hc<;>try omega)|apply BL)<;>conv=>whnf))
  refine NJ ?_;(repeat' ((first|(apply B6<;>intro hc<;>try omega)|(apply EL;omega)|(apply DD;omega)|apply BL|refine BF (Ws) ?_|refine BF (Hs) ?_)<;>conv=>whnf))
  refine NJ ?_;(repeat' ((first|(apply B6<;>intro hc<;>try omega)|(apply EL;omega)|(apply DD;omega)|apply BL|refine BF (Ma) ?_|refine BF (Ht) ?_)<;>conv=>whnf))
  refine NJ ?_;(repeat' ((first|(apply B6<;>intro hc<;>try omega)|(apply EL;omega)|apply BL)<;>conv=>whnf))
  refine ⟨rfl,?_⟩;(conv=>whnf)
  refine ⟨_,?_,hK'⟩;first|exact ⟨rfl,rfl,rfl,rfl,rfl,rfl,rfl,trivial⟩|exact ⟨rfl,rfl,rfl,rfl,rfl,rfl,rfl,rfl,trivial⟩
def KB (n:Nt) (p k:Nat) (x:Int):Rat:=MP n p (1+n.s.toNat+k)*(x:Rat)+LZ n p (1+n.s.toNat+k)
theorem AqV {n:Nt} {p k:Nat} {x y:Int} (h:x<=y):KB n p k x<=KB n p k y:=by
 have h1:=AmQ n p (1+n.s.toNat+k);have h2:(x:Rat)<=(y:Rat):=Rat.intCast_le_intCast.2 h;have:=Rat.mul_le_mul_of_nonneg_left h2 h1
 rw[KB,KB];grind
def vX (n:Nt):Prop := ∀ j,j<=6->KR (HW n.s.toNat (aN n) j)=false
theorem uG {w:Wd} (h:WV w):0<=I2 w/\I2 w<=8388607:=by
 rw[I2,if_pos h];unfold WV at h;have h1:=aV (n:=w.b-1) (m:=23) (by omega);have h2:=O2 (w.b-1);have h3:pw 23=8388608:=by unfold pw;rfl
 omega
theorem AsZ (I:e8 L) (N:s8 L) (n:Nt) (hn:IU n) (x:Int) (hx:0<=x/\x<=I2 n.d) :
  ∃ v,Ev L 357 [.agg (HV n),.int .i64 x] v/\((∃ i,i<=6/\OQ n.s.toNat (aN n) i/\v = .j5 [.bool (decide (∀ k,k<n.nodes.length->KB n (2^i) k x<=(I2 n.d:Rat))),.int .i64 0])\/(vX n/\v = .j5 [.bool false,.int .i64 14])):=by
 obtain ⟨Ck,_,⟨Ac,_⟩,_⟩:=(J6 n).1 hn.jb;have Ld:=uG Ck;have o4:=hn.st;have mf:=hn.nl;have hU:=Vg I N n hn;have hH:=xB n.d I;generalize Ig:I2 n.d=hi at *;have Kp:=PW N.toa7 hi (by omega);refine Ev.xE N.aU rfl rfl ?_;(repeat' ((first|(apply B6<;>intro hc<;>try omega)|apply BL|refine BF (hU) ?_|refine BF (hH) ?_)<;>conv=>whnf))
 refine sU [2] [(2,2,.bx (HV n))] ⟨rfl,trivial⟩ rfl (AdN I N n hn _ _ 2 (Or.inr (Or.inl ⟨rfl,rfl⟩)) _ (λ i i1 i2 => ?_) (λ Ak => ?_))
 ·obtain ⟨g1,_,g3⟩:=cT i1
  have Em:=λ(k:Nat) (hk:k<n.nodes.length) (K:AV->Mem->Prop) hK=>AdV N n hn i i1 (1+n.s.toNat+k) (by omega) [(1,2,.bx (HV n))] [1] 2 0 (Or.inl ⟨rfl,rfl⟩) K hK
  have hbt : ∀ k,KB n (2^i) k x=MP n (2^i) (1+n.s.toNat+k)*(x:Rat)+LZ n (2^i) (1+n.s.toNat+k):=λ_=>rfl
  have Ce:=Bt.ofInt (show x.natAbs<=2^24 by have:(2:Nat)^24=16777216:=rfl;omega);have Gz:=Bt.ofInt (show hi.natAbs<=2^24 by have:(2:Nat)^24=16777216:=rfl;omega);(repeat' ((first|(apply B6<;>intro hc<;>try omega)|apply C9)<;>conv=>whnf))
  refine GF (gi:=[(34,.int .i64 0),(33,.int .i64 (n.nodes.length:Nat)),(7,.fn false 354 (L.num 354) [.ptr 356004 0 0 0,.ptr 356009 0 0 0,.ptr 356014 0 0 0,.ptr 356011 0 0 0]),(6,.int .i64 hi),(2,.ptr 1 0 0 0),(1,.int .i64 x)]) (M':=(1,2,.bx (HV n))::xW n (2^i) (PO (aN n).flatten) (wL n)) [(1,2)] (by (conv=>whnf);exact ⟨rfl,rfl,rfl⟩) ?_;refine K7 (λ k=>n.nodes.length-k) (λ(k:Nat)=>k<=n.nodes.length /\ ∀ j,j<k->KB n (2^i) j x<=(hi:Rat)) (λ k=>[(34,.int .i64 k)]) (λ_=>[]) 0 ⟨by omega,by omega⟩ ?_;intro k ⟨k1,k2⟩ kh;by_cases hk:k<n.nodes.length
  ·(repeat' ((first|(apply B6<;>intro hc<;>try omega)|(apply EL;omega)|(apply DD;omega)|apply BL)<;>conv=>whnf))
   rw[show (1+n.s+(k:Int))=((1+n.s.toNat+k:Nat):Int) by omega];refine sU _ _ ?_ ?_ (Em k hk _ ?_)
   ·exact ⟨rfl,rfl,rfl,rfl,rfl,rfl,rfl,trivial⟩
   ·rfl
   intro b1 b2;have hBa:=AeL N (MP n (2^i) (1+n.s.toNat+k)) (LZ n (2^i) (1+n.s.toNat+k)) x 400000000000 b1 b2 (by omega) (by have:(2:Nat)^24=16777216:=rfl;omega);rw[<-hbt]at hBa;have ta:=xA N.toak (x:=KB n (2^i) k x) ((b1.mul Ce).add b2) Gz (by omega) (by omega);have yq:=mO (x:=KB n (2^i) k x) (y:=(hi:Rat));generalize MP n (2^i) (1+n.s.toNat+k)=ra at *;generalize LZ n (2^i) (1+n.s.toNat+k)=rb at *;generalize w3 (KB n (2^i) k x-(hi:Rat)).num=sg at *;(conv=>whnf)
   (repeat' ((first|(apply B6<;>intro hc<;>try omega)|(apply DD;omega)|refine BF (hBa) ?_|refine BF (Kp) ?_|refine BF (ta) ?_)<;>conv=>whnf))
   ·refine ⟨_,DH rfl (by simp [EA,GK]),Or.inl ⟨i,i1,i2,?_⟩⟩
    rw[decide_eq_false];intro h;have h1:=h k hk;have h2:=yq.1 hc;grind
   ·have hle:KB n (2^i) k x<=(hi:Rat):=Rat.not_lt.1 λ h=>by have:=yq.2 h;omega
    exact FV [] (kh (k+1) (by omega) ⟨by omega,λ j hj=>by
     by_cases e:j=k
     ·rw[e];exact hle
     ·exact k2 j (by omega)⟩)
  have ek:k=n.nodes.length:=by omega
  clear kh;rw[ek]at k2 ⊢;(repeat' ((first|(apply B6<;>intro hc<;>try omega)|apply BL)<;>conv=>whnf))
  refine ⟨_,DH rfl (by simp [EA,GK]),Or.inl ⟨i,i1,i2,?_⟩⟩;rw[decide_eq_true k2]
 ·(repeat' ((first|(apply B6<;>intro hc<;>try omega)|fail)<;>conv=>whnf))
  exact ⟨_,DH rfl (by simp [EA,GK,L3]),Or.inr ⟨Ak,rfl⟩⟩
def AhR (n:Nt) (i:Nat) (v:AV):Prop:=(∃ m:Int,0<=m/\m<=I2 n.d/\v = .j5 [.int .i64 m,.int .i64 0] /\ ∀ x:Int,0<=x->x<=I2 n.d->(x<=m ↔ ∀ k,k<n.nodes.length->KB n (2^i) k x<=(I2 n.d:Rat)))\/(∃ k,k<n.nodes.length/\(I2 n.d:Rat)<LZ n (2^i) (1+n.s.toNat+k)/\v = .j5 [.int .i64 0,.int .i64 18])
theorem AsW (I:e8 L) (N:s8 L) (n:Nt) (hn:IU n) :
  ∃ v,Ev L 358 [.agg (HV n)] v/\((∃ i,i<=6/\OQ n.s.toNat (aN n) i/\AhR n i v)\/(vX n/\v = .j5 [.int .i64 0,.int .i64 14])):=by
 obtain ⟨Ck,_,⟨Ac,_⟩,_⟩:=(J6 n).1 hn.jb;have Ld:=uG Ck;have o4:=hn.st;have mf:=hn.nl;have hU:=Vg I N n hn;have hH:=xB n.d I;unfold AhR;generalize Ig:I2 n.d=hi at *;have Kp:=PW N.toa7 hi (by omega);have Gz:=Bt.ofInt (show hi.natAbs<=2^24 by have:(2:Nat)^24=16777216:=rfl;omega);refine Ev.xE N.gO rfl rfl ?_;(repeat' ((first|apply BL|refine BF (hU) ?_)<;>conv=>whnf))
 refine sU [1] [(1,1,.bx (HV n))] ⟨rfl,trivial⟩ rfl (AdN I N n hn _ _ 1 (Or.inl ⟨rfl,rfl⟩) _ (λ i i1 i2 => ?_) (λ Ak => ?_))
 ·obtain ⟨g1,_,g3⟩:=cT i1
  have Em:=λ(k:Nat) (hk:k<n.nodes.length) (K:AV->Mem->Prop) hK=>AdV N n hn i i1 (1+n.s.toNat+k) (by omega) [(1,1,.bx (HV n)),(6,6,.bx (eQ (hi:Rat)))] [1,6] 1 (hi:Rat) (Or.inr (Or.inl ⟨rfl,rfl⟩)) K hK
  have hbt : ∀ k x,KB n (2^i) k x=MP n (2^i) (1+n.s.toNat+k)*(x:Rat)+LZ n (2^i) (1+n.s.toNat+k):=λ_ _=>rfl
  have td : ∀ k,KB n (2^i) k 0=LZ n (2^i) (1+n.s.toNat+k):=λ k=>by rw[hbt,show ((0:Int):Rat)=0 from rfl,Rat.mul_zero,Rat.zero_add]
  have Qg : ∀ k (x y:Int),x<=y->KB n (2^i) k x<=KB n (2^i) k y:=λ k x y h=>AqV h
  (repeat' ((first|(apply B6<;>intro hc<;>try omega)|apply C9|refine BF (hH) ?_|refine BF (Kp) ?_)<;>conv=>whnf))
  refine MR (λ k _=>n.nodes.length-k) (λ(k:Nat) (m:Int)=>k<=n.nodes.length/\0<=m/\m<=hi /\ ∀ x:Int,0<=x->x<=hi->(x<=m ↔ ∀ j,j<k->KB n (2^i) j x<=(hi:Rat))) (λ k m=>[(33,.int .i64 k),(7,.int .i64 m)]) (λ_ _=>[]) 0 hi ⟨by omega,by omega,by omega,λ x _ h=>⟨λ_ j hj=>absurd hj (by omega),λ_=>h⟩⟩ ?_;intro k m ⟨k1,m0,m1,k2⟩ kh;by_cases hk:k<n.nodes.length
  ·(repeat' ((first|(apply B6<;>intro hc<;>try omega)|(apply EL;omega)|(apply DD;omega)|apply BL)<;>conv=>whnf))
   rw[show (1+n.s+(k:Int))=((1+n.s.toNat+k:Nat):Int) by omega];refine sU _ _ ?_ ?_ (Em k hk _ ?_)
   ·exact ⟨rfl,rfl,rfl,rfl,rfl,rfl,rfl,rfl,trivial⟩
   ·rfl
   intro b1 b2;have hBa:=λ(x:Int) (hx:x.natAbs<=2^24)=>AeL N (MP n (2^i) (1+n.s.toNat+k)) (LZ n (2^i) (1+n.s.toNat+k)) x 400000000000 b1 b2 (by omega) hx
   have hCr:=xA N.toak b2 Gz (by omega) (by omega);have Lm:=mO (x:=LZ n (2^i) (1+n.s.toNat+k)) (y:=(hi:Rat));have ta:=λ(x:Int) (hx:x.natAbs<=2^24)=>xA N.toak (x:=KB n (2^i) k x) ((b1.mul (Bt.ofInt hx)).add b2) Gz (by omega) (by omega)
   have yq:=λ x:Int=>mO (x:=KB n (2^i) k x) (y:=(hi:Rat))
   have hB2 : ∀ x:Int,x.natAbs<=2^24->Ev L 353 [.agg (eQ (MP n (2^i) (1+n.s.toNat+k))++eQ (LZ n (2^i) (1+n.s.toNat+k))),.int .i64 x] (.agg (eQ (KB n (2^i) k x))):=hBa;have Xn:=td k;have Ns:=Qg k;generalize hgf:(λ x=>KB n (2^i) k x)=bf at *;have Ei : ∀ x,KB n (2^i) k x=bf x:=λ x=>by rw[<-hgf]
   simp only[Ei]at hB2 ta yq Xn Ns;clear hBa hbt td Qg;generalize hra:MP n (2^i) (1+n.s.toNat+k)=ra at *;generalize yp:LZ n (2^i) (1+n.s.toNat+k)=rb at *;generalize AWq:w3 (rb-(hi:Rat)).num=sr at *;(conv=>whnf)
   (repeat' ((first|(apply B6<;>intro hc<;>try omega)|refine BF (hCr) ?_)<;>conv=>whnf))
   ·refine ⟨_,DH rfl (by simp [EA,GK]),Or.inl ⟨i,i1,i2,Or.inr ⟨k,hk,?_,rfl⟩⟩⟩
    rw[yp];exact Lm.1 hc
   ·have yo:rb<=(hi:Rat):=Rat.not_lt.1 λ h=>by have:=Lm.2 h;omega
    refine MR (λ lo m'=>(m'-lo).toNat) (λ(lo m':Int)=>0<=lo/\lo<=m'/\m'<=m/\bf lo<=(hi:Rat) /\ ∀ x:Int,m'<x->x<=m -> ¬ bf x<=(hi:Rat)) (λ lo m'=>[(10,.int .i64 lo),(7,.int .i64 m')]) (λ_ _=>[]) 0 m ⟨by omega,by omega,by omega,by rw[Xn];exact yo,λ x h1 h2=>absurd h1 (by omega)⟩ ?_;intro lo m' ⟨l0,l1,l2,l3,l4⟩ lh;by_cases hlm:lo<m'
    ·obtain ⟨md,Nr⟩ : ∃ md:Int,md=(lo+m'+1)/2:=⟨_,rfl⟩
     have oa:lo<md/\md<=m':=by omega
     have h3:=hB2 md (by have:(2:Nat)^24=16777216:=rfl;omega);have h4:=ta md (by have:(2:Nat)^24=16777216:=rfl;omega);have h5:=yq md;generalize w3 (bf md-(hi:Rat)).num=sm at *;(repeat' ((first|(apply B6<;>intro hc<;>try omega)|(apply DD;omega)|(refine Z2 ?_ ?_ (λ_ => ?_) (λ_ _ => ?_);omega;omega;all_goals try omega)|apply BL)<;>conv=>whnf))
     rw[<-Nr];(repeat' ((first|(apply B6<;>intro hc<;>try omega)|(apply F8;omega)|refine BF (h3) ?_|refine BF (h4) ?_)<;>conv=>whnf))
     ·have yh:=h5.1 hc
      exact FV [] (lh lo (md-1) (by omega) ⟨by omega,by omega,by omega,l3,λ x q1 q2 q3=>by
       have:=Ns md x (by omega)
       grind⟩)
     ·have hle:bf md<=(hi:Rat):=Rat.not_lt.1 λ h=>by have:=h5.2 h;omega
      exact FV [] (lh md m' (by omega) ⟨by omega,by omega,by omega,hle,l4⟩)
    have el:lo=m':=by omega
    clear lh;subst el;have rh : ∀ x:Int,0<=x->x<=hi->(x<=lo ↔ ∀ j,j<k+1->KB n (2^i) j x<=(hi:Rat)):=λ x x0 x1=>by
     refine ⟨λ h j hj => ?_,λ h=>Int.not_lt.1 λ o5 => ?_⟩
     ·by_cases e:j=k
      ·rw[e,Ei]
       have:=Ns x lo h
       grind
      ·exact (k2 x x0 x1).1 (by omega) j (by omega)
     ·have h1:=(k2 x x0 x1).2 λ j hj=>h j (by omega)
      have h2:=h k (by omega);rw[Ei]at h2;exact l4 x o5 h1 h2
    (repeat' ((first|(apply B6<;>intro hc<;>try omega)|(apply DD;omega)|apply BL)<;>conv=>whnf))
    exact FV [] (kh (k+1) lo (by omega) ⟨by omega,by omega,by omega,rh⟩)
  have ek:k=n.nodes.length:=by omega
  clear kh;rw[ek]at k2 ⊢;(repeat' ((first|(apply B6<;>intro hc<;>try omega)|apply BL)<;>conv=>whnf))
  exact ⟨_,DH rfl (by simp [EA,GK]),Or.inl ⟨i,i1,i2,Or.inl ⟨m,m0,m1,rfl,k2⟩⟩⟩
 ·(repeat' ((first|(apply B6<;>intro hc<;>try omega)|fail)<;>conv=>whnf))
  exact ⟨_,DH rfl (by simp [EA,GK]),Or.inr ⟨Ak,rfl⟩⟩
def oZ (n:Nt) (i v:Nat) (x:Int):Rat:=MP n (2^i) v*(x:Rat)+LZ n (2^i) v
theorem AsO (I:e8 L) (N:uf L) (n:Nt) (hn:IU n) (v:Nat) (hv:v<n.s.toNat+1+n.nodes.length) (x:Int) (hx:0<=x/\x<=I2 n.d) :
  ∃ w,Ev L 360 [.agg (HV n),.int .i64 (v:Int),.int .i64 x] w/\((∃ i,i<=6/\OQ n.s.toNat (aN n) i/\Bt 900000000000 (oZ n i v x)/\w = .j5 [.agg (eQ (oZ n i v x)),.int .i64 0])\/(vX n/\w = .j5 [.agg [.bool false,.sl false [],.sl false []],.int .i64 14])):=by
 obtain ⟨Ck,_,⟨Ac,_⟩,_⟩:=(J6 n).1 hn.jb;have Ld:=uG Ck;have o4:=hn.st;have mf:=hn.nl;have B:s8 L:=N.tos8;have hU:=Vg I B n hn;have hH:=xB n.d I;generalize Ig:I2 n.d=hi at *;have h24:(2:Nat)^24=16777216:=rfl;have Ce:=Bt.ofInt (show x.natAbs<=2^24 by omega);refine Ev.xE N.Y3 rfl rfl ?_;(repeat' ((first|(apply B6<;>intro hc<;>try omega)|(apply DD;omega)|apply C9|apply BL|refine BF (hU) ?_|refine BF (hH) ?_)<;>conv=>whnf))
 refine sU [3,6] [(3,3,.bx (HV n)),(6,6,.bx [.bool false,.nil,.nil])] ⟨rfl,rfl,trivial⟩ rfl (AdN I B n hn _ _ 3 (Or.inr (Or.inr ⟨rfl,rfl⟩)) _ (λ i i1 i2 => ?_) (λ Ak => ?_))
 ·obtain ⟨g1,_,g3⟩:=cT i1
  have Em:=λ(K:AV->Mem->Prop) hK=>AdV B n hn i i1 v hv [(3,3,.bx (HV n)),(6,6,.bx [.bool false,.nil,.nil])] [3,6] 3 0 (Or.inr (Or.inr ⟨rfl,rfl⟩)) K hK
  have hbt:oZ n i v x=MP n (2^i) v*(x:Rat)+LZ n (2^i) v:=rfl;(repeat' ((first|(apply B6<;>intro hc<;>try omega)|(apply EL;omega))<;>conv=>whnf))
  refine sU _ _ ?_ ?_ (Em _ ?_)
  ·exact ⟨rfl,rfl,rfl,rfl,rfl,rfl,rfl,rfl,trivial⟩
  ·rfl
  intro b1 b2;have hBa:=AeL B (MP n (2^i) v) (LZ n (2^i) v) x 400000000000 b1 b2 (by omega) (by omega);rw[<-hbt]at hBa;have hB9:Bt 900000000000 (oZ n i v x):=by
   rw[hbt];exact ((b1.mul Ce).add b2).le (by omega)
  generalize MP n (2^i) v=ra at *;generalize LZ n (2^i) v=rb at *;obtain ⟨bo,hbo⟩ : ∃ bo,oZ n i v x=bo:=⟨_,rfl⟩;rw[hbo]at hBa hB9;(conv=>whnf)
  (repeat' (refine BF (hBa) ?_<;>conv=>whnf))
  exact ⟨_,DH rfl (by
   have:=JB bo
   simp only[EA,GK,and_true,true_and]at this ⊢;exact this),Or.inl ⟨i,i1,i2,by rw[hbo];exact hB9,by rw[hbo]⟩⟩
 ·(repeat' ((first|(apply B6<;>intro hc<;>try omega)|fail)<;>conv=>whnf))
  exact ⟨_,DH rfl (by simp [EA,GK,L3]),Or.inr ⟨Ak,rfl⟩⟩
theorem Ahh {S:NN} {n k:Nat} (hS:S.Ok n k) (hn:n<=4) (hk:k<=40000) {p:Nat} (hp:p<=64):Bt 100000000000 (M4 S p):=by
 have Gv:Sq n S.a:=⟨hS.la,hS.lr⟩;have su:=hS.lc;have Hh : ∀ j,j<=128->Bs 90000000 (O5 S.a S.b j):=λ j hj=>(Aou Gv hS.lb hS.ba hS.bb j).le (by have:=Ahu (n:=n) (k:=k) hn hj;omega)
 have ft : ∀ j,j<=128->Bt (4*(k+90000000+1)) (GG S.c (O5 S.a S.b j)):=λ j hj=>(hS.bc.dot (Hh j hj)).le (zR _ (by omega))
 have ot:Bt (4*(k+1)) (FY S.c):=(oQ hS.bc).le (zR _ (by omega));have q1:=(Rb (f:=YV S.a S.b S.c) (k:=370000000) (p+p) λ t ht=>(RR (ft t (by omega))).le (by omega)).le (zR _ (show p+p<=128 by omega));have q2:=(Rb (f:=λ t=>cK S.a S.b (p+t)) (k:=90000000) p λ t ht=>oD (Hh (p+t) (by omega))).le (zR _ (show p<=128 by omega));exact ((RR hS.bd).add (q1.add (ot.mul q2))).le (by omega)
theorem AmE {n:Nt} (hn:IU n) {v:Nat} (hv:v<n.s.toNat+1+n.nodes.length):IU (KQ n v):=by
 obtain ⟨h1,h2,h3,h4,h5,h6⟩:=(J6 n).1 hn.jb;exact ⟨(J6 (KQ n v)).2 ⟨h1,h2,h3,h4,h5,show (0:Int)<=(v:Int)/\(v:Int)<=n.s+n.nodes.length by omega⟩,hn.st,hn.nl,hn.cf,hn.tl⟩
theorem Su {n:Nt} (hn:IU n):pM (II n):=by
 refine ⟨λ ts h => ?_,λ ts h => ?_⟩;all_goals
  obtain ⟨d,hd,rfl⟩:=List.mem_map.1 h
 ·rcases hn.tl with h|⟨_,h⟩
  ·have:=h d hd;omega
  ·exact h d hd
 ·exact hn.cf d hd
theorem An9 {n:Nt} (hn:IU n) {s:H2} (hs:nN n s) (v:Nat):(X9 n s v).Ok n.s.toNat 40000 :=
 ⟨(pP hn).l,(pP hn).r,hs.bl hn,Agp n v,Abv hn,hs.bb,Agn hn v,xL hs.gb v⟩
theorem Ab9 {n:Nt} (hn:IU n) (v:Nat):(L9 (KQ n v)).Ok n.s.toNat 40000:=by
 rw[<-Aoc hn.jb];exact An9 hn (AnB hn) v
theorem Alg {n:Nt} (hn:IU n) (k v:Nat):(V4 (KQ n v) (k:Int)).Ok n.s.toNat 40000:=by
 rw[<-Aob hn.jb k 1];exact An9 hn (AgW hn _ ⟨by decide,by decide⟩ (by decide)) v
theorem Ake (I:e8 L) (N:z7 L) (n:Nt) (hn:IU n) (k:Nat) (nd:Nd) (hnd:n.nodes[k]? = some nd):Ev L 362 [.agg (HV n),.int .i64 (k:Int)] (.j5 [.agg (eQ (KH n nd)),.int .i64 0]):=by
 obtain ⟨h1,h2,⟨h3a,h3b,h3c,h3d⟩,h4,h5,h6⟩:=(J6 n).1 hn.jb;have Lz:=h2;unfold WV at Lz;have hV:=Vf n I N.toff;rw[hn.jb]at hV;have Io:n.nodes[(k:Int).toNat]? = some nd:=hnd;have hki:=(zS hnd).1;have hIn:=cG I k 0 ((n.nodes.length:Int)-1);rw[decide_eq_true (by omega)]at hIn;have Dd:=YU N.toa8 0 (by omega);have zq:=YU N.toa8 1 (by omega);have hF:=AbW N.toa8 1 2 (by omega) (by omega);rw[show ((0:Int):Rat)=0 from rfl]at Dd;rw[show ((1:Int):Rat)=1 from rfl]at zq;have Dg:=O2 n.c.f;have hC:=hn.cf _ (zM hnd);have hL:nd.ts.length<=5:=(Su hn).len _ (List.mem_map.2 ⟨nd,zM hnd,rfl⟩);have da : ∀ x:Rat,EA (.j5 [.agg (eQ x),.int .i64 0]):=λ x=>tN x 0
 refine Ev.x N.bG rfl rfl ?_;(repeat' ((first|(apply F8;omega)|apply C9|apply BL|refine BF (hV) ?_|refine BF (hIn) ?_)<;>conv=>whnf))
 refine MR (λ i _=>nd.ts.length-i) (λ(i:Nat) (b:Bool)=>i<=nd.ts.length/\b=qT n (nd.ts.take i)) (λ i b=>[(7,.int .i64 i),(6,.bool b)]) (λ_ _=>[]) 0 true ⟨by omega,by simp [qT]⟩ ?_;intro i b ⟨p1,p2⟩ ih;by_cases hi:i<nd.ts.length
 ·obtain ⟨t,ht⟩ : ∃ t,nd.ts[i]? = some t:=⟨_,zE hi⟩
  have vq:nd.ts[(i:Int).toNat]? = some t:=ht;have hw:=Aox (n:=n) ht;rw[<-p2]at hw;by_cases hz:t.2%pw n.c.f=0
  ·rw[decide_eq_true hz,Bool.and_true]at hw
   cases b
   ·(repeat' ((first|(apply B6<;>intro hc<;>try omega)|(apply DD;omega)|apply C9|(refine E4 (by assumption) ?_ rfl ?_;omega)|apply BL)<;>conv=>whnf))
    exact FV [] (ih (i+1) false (by omega) ⟨by omega,hw.symm⟩)
   ·(repeat' ((first|(apply B6<;>intro hc<;>try omega)|(apply DD;omega)|(refine NS ?_ (λ_ _ => ?_);omega)|(refine nL ?_ (λ_ _ _ => ?_) (λ_ _ _ _ => ?_);omega;all_goals try omega)|(apply HN;omega)|apply C9|(refine E4 (by assumption) ?_ rfl ?_;omega)|apply BL)<;>conv=>whnf))
    all_goals exact FV [] (ih (i+1) true (by omega) ⟨by omega,hw.symm⟩)
  ·rw[decide_eq_false hz,Bool.and_false]at hw
   cases b
   ·(repeat' ((first|(apply B6<;>intro hc<;>try omega)|(apply DD;omega)|apply C9|(refine E4 (by assumption) ?_ rfl ?_;omega)|apply BL)<;>conv=>whnf))
    exact FV [] (ih (i+1) false (by omega) ⟨by omega,hw.symm⟩)
   ·(repeat' ((first|(apply B6<;>intro hc<;>try omega)|(apply DD;omega)|(refine NS ?_ (λ_ _ => ?_);omega)|(refine nL ?_ (λ_ _ _ => ?_) (λ_ _ _ _ => ?_);omega;all_goals try omega)|(apply HN;omega)|apply C9|(refine E4 (by assumption) ?_ rfl ?_;omega)|apply BL)<;>conv=>whnf))
    all_goals exact FV [] (ih (i+1) false (by omega) ⟨by omega,hw.symm⟩)
 have ei:i=nd.ts.length:=by omega
 clear ih;rw[ei,List.take_length]at p2;cases b
 ·by_cases hr:n.d.r=2
  ·have e:KH n nd=Rat.divInt 1 2:=by rw[KH,<-p2,if_neg (by decide),if_pos hr]
   rw[e];(repeat' ((first|(apply B6<;>intro hc<;>try omega)|apply C9|(refine E4 (by assumption) ?_ rfl ?_;omega)|apply BL|refine BF (hF) ?_)<;>conv=>whnf))
   exact DH rfl (da _)
  ·have e:KH n nd=1:=by rw[KH,<-p2,if_neg (by decide),if_neg hr]
   rw[e];(repeat' ((first|(apply B6<;>intro hc<;>try omega)|apply C9|(refine E4 (by assumption) ?_ rfl ?_;omega)|apply BL|refine BF (zq) ?_)<;>conv=>whnf))
   exact DH rfl (da _)
 ·have e:KH n nd=0:=by rw[KH,<-p2,if_pos rfl]
  rw[e];(repeat' ((first|(apply B6<;>intro hc<;>try omega)|apply C9|(refine E4 (by assumption) ?_ rfl ?_;omega)|apply BL|refine BF (Dd) ?_)<;>conv=>whnf))
  exact DH rfl (da _)
theorem Aki (N:z7 L) (S:NN) (n i:Nat) (hS:S.Ok n 40000) (hn:n<=4) (hi:i<=6) (hF:OQ n S.a i):Ev L 315 [.agg (eS S)] (.j5 [.agg (eQ (M4 S (2^i))),.int .i64 0]):=by
 obtain ⟨v,h1,hv⟩:=Akh N.tofh S n 40000 hS hn (by omega);rcases hv with ⟨j,j1,j2,rfl⟩|⟨nc,rfl⟩
 ·obtain rfl:=hF.uniq j2;exact h1
 ·have:=nc i hi
  rw[hF.1]at this;cases this
theorem AtO (N:z7 L) (S:NN) (n:Nat) (hS:S.Ok n 40000) (hn:n<=4) (hU : ∀ j,j<=6->KR (HW n S.a j)=false):Ev L 315 [.agg (eS S)] (.j5 [.agg [.bool false,.sl false [],.sl false []],.int .i64 14]):=by
 obtain ⟨v,h1,hv⟩:=Akh N.tofh S n 40000 hS hn (by omega);rcases hv with ⟨j,j1,j2,rfl⟩|⟨nc,rfl⟩
 ·have:=hU j j1
  rw[j2.1]at this;cases this
 ·exact h1
def aB (n:Nt) (i v:Nat) (x:Int) (K:Nat):Rat:=(x:Rat)*MP n (2^i) v+Br (xS n) (λ k=>M4 (V4 (KQ n v) (k:Int)) (2^i)) K
theorem Agh {n:Nt} (hn:IU n) (i k:Nat) (x:Int):aB n i (1+n.s.toNat+k) x n.nodes.length=KB n (2^i) k x:=by
 rw[aB,<-Am6 hn.jb,KB,Rat.mul_comm]
theorem AeV (I:e8 L) (N:z7 L) (n:Nt) (hn:IU n) (i:Nat) (hi:i<=6) (hF:OQ n.s.toNat (aN n) i) (v:Nat) (hv:v<n.s.toNat+1+n.nodes.length) (x:Int) (hx:0<=x/\x<=8388607) :
  Bt 1000000000000 (aB n i v x n.nodes.length)/\Ev L 364 [.agg (HV n),.int .i64 (v:Int),.int .i64 x] (.j5 [.agg (eQ (aB n i v x n.nodes.length)),.int .i64 0]):=by
 have h24:(2:Nat)^24=16777216:=rfl;have o4:=hn.st;have mf:=hn.nl;have nc:=AmE hn hv;obtain ⟨_,_,⟨Ac,_⟩,_⟩:=(J6 n).1 hn.jb;obtain ⟨g1,_,g3⟩:=cT hi;have zo:=AeK I N.toeo (KQ n v) nc.jb (Su nc) nc.nl;have ADF : ∀ k:Nat,k<n.nodes.length->Ev L 166 [.agg (HV (KQ n v)),.int .i64 (k:Int)] (.j5 [.agg (eS (V4 (KQ n v) (k:Int))),.int .i64 0]):=λ k hk=>by
  have:=AsT I N.toeo (KQ n v) (k:Int) nc.jb (Su nc) nc.nl (by unfold LU;omega)
  rwa [Ab5,if_pos (show (0:Int)<=(k:Int)/\(k:Int)<((KQ n v).nodes.length:Int) by show _/\(k:Int)<(n.nodes.length:Int);omega)]at this
 have Gx:(L9 (KQ n v)).a=aN n:=(vY hn.jb).symm;have hak : ∀ k:Nat,(V4 (KQ n v) (k:Int)).a=aN n:=λ k=>(vY hn.jb).symm
 have Xd:=Aki N (L9 (KQ n v)) n.s.toNat i (Ab9 hn v) (by omega) hi (by rw[Gx];exact hF);have hSk:=λ k:Nat=>Aki N (V4 (KQ n v) (k:Int)) n.s.toNat i (Alg hn k v) (by omega) hi (by rw[hak];exact hF)
 have hLv:=λ(k:Nat) (nd:Nd) (h:n.nodes[k]? = some nd)=>Ake I N (KQ n v) nc k nd h
 have td:=Ahh (Ab9 hn v) (by omega) (by omega) g1;have fk:=λ k:Nat=>Ahh (Alg hn k v) (by omega) (by omega) g1
 have Ce:=Bt.ofInt (show x.natAbs<=2^24 by omega);have hOx:=YU N.toa8 x (by omega);have Wy:=tX N.toa8 Ce td (by omega) (by omega);have Qe : ∀ (k:Nat) (nd:Nd),n.nodes[k]? = some nd->xS n k=KH n nd:=λ k nd h=>by rw[xS,h]
 have Og:aB n i v x 0=(x:Rat)*M4 (L9 (KQ n v)) (2^i):=by
  rw[aB,AmR hn.jb];show _+0=_;rw[Rat.add_zero]
 have uo : ∀ (k:Nat) (nd:Nd),n.nodes[k]? = some nd->aB n i v x (k+1)=aB n i v x k+KH n nd*M4 (V4 (KQ n v) (k:Int)) (2^i):=λ k nd h=>by
  rw[aB,aB,Br,Qe k nd h,<-Rat.add_assoc]
 have yp : ∀ K,K<=n.nodes.length->Bt (100000000030+K*100000000010) (aB n i v x K):=by
  intro K;induction K with
  | zero=>intro _;rw[Og];exact (Ce.mul td).le (by omega)
  | succ K ih =>
   intro hK;obtain ⟨nd,hnd⟩ : ∃ nd,n.nodes[K]? = some nd:=⟨_,zE (by omega)⟩;rw[uo K nd hnd];exact ((ih (by omega)).add ((rY n nd).1.mul (fk K))).le (by omega)
 have hMk:=λ(k:Nat) (nd:Nd)=>tX N.toa8 (rY n nd).1 (fk k) (by omega) (by omega)
 have hAk:=λ(k:Nat) (nd:Nd) (hk:k<n.nodes.length)=>oA N.toa8 (yp k (by omega)) ((rY n nd).1.mul (fk k)) (by omega) (by omega)
 have Kz:=(yp n.nodes.length (Nat.le_refl _)).le (show _<=1000000000000 by omega);refine ⟨Kz,?_⟩;rw[<-Og]at Wy;have da:=λ x:Rat=>tN x 0
 obtain ⟨R,hR⟩ : ∃ R:Nat->Rat,∀ k,aB n i v x k=R k:=⟨_,λ_=>rfl⟩;obtain ⟨T,hT⟩ : ∃ T:Nat->Rat,∀ k:Nat,M4 (V4 (KQ n v) (k:Int)) (2^i)=T k:=⟨_,λ_=>rfl⟩;have ADp : ∀ (k:Nat) (nd:Nd),n.nodes[k]? = some nd->Ev L 126 [.agg (eQ (R k)),.agg (eQ (KH n nd*T k))] (.agg (eQ (R (k+1)))):=λ k nd h=>by
  have hk:=(zS h).1;have:=hAk k nd hk
  rw[<-uo k nd h,hR,hR,hT]at this;exact this
 simp only[hT]at hSk hMk;rw[hR]at Wy ⊢;clear hAk uo Og yp fk td Kz hR hT Qe hak Gx;generalize M4 (L9 (KQ n v)) (2^i)=s0 at *;refine Ev.x N.bH rfl rfl ?_;(repeat' ((first|(apply B6<;>intro hc<;>try omega)|apply BL|refine BF (zo) ?_|refine BF (Xd) ?_|refine BF (hOx) ?_|refine BF (Wy) ?_)<;>conv=>whnf))
 refine K7 (λ k=>n.nodes.length-k) (λ(k:Nat)=>k<=n.nodes.length) (λ k=>[(13,.int .i64 k)]) (λ k=>[(12,12,.bx (eQ (R k)))]) 0 (by omega) ?_;intro k k1 kh;by_cases hk:k<n.nodes.length
 ·obtain ⟨nd,hnd⟩ : ∃ nd,n.nodes[k]? = some nd:=⟨_,zE hk⟩
  have f1:=hLv k nd hnd;have f1':Ev L 362 [.agg (HV (KQ n v)),.int .i64 (k:Int)] (.j5 [.agg (eQ (KH n nd)),.int .i64 0]):=f1;have f2:=ADF k hk;have f3:=hSk k;have f4:=hMk k nd;have f5:=ADp k nd hnd;clear f1;generalize V4 (KQ n v) (k:Int)=Sk at *;generalize KH n nd=lv at *;(repeat' ((first|(apply B6<;>intro hc<;>try omega)|(apply DD;omega)|apply C9|apply BL|refine BF (f1') ?_|refine BF (f2) ?_|refine BF (f3) ?_|refine BF (f4) ?_|refine BF (f5) ?_)<;>conv=>whnf))
  exact FV [] (kh (k+1) (by omega) (by omega))
 have ek:k=n.nodes.length:=by omega
 clear kh;rw[ek];(repeat' ((first|(apply B6<;>intro hc<;>try omega)|apply C9|apply BL)<;>conv=>whnf))
 exact DH rfl (da _)
theorem AeX (I:e8 L) (N:z7 L) (n:Nt) (hn:IU n):Ev L 363 [.agg (HV n)] (.bool true):=by
 have hV:=Vf n I N.toff;rw[hn.jb]at hV;have:=hn.st
 refine Ev.x N.mE rfl rfl ?_;(repeat' ((first|(apply B6<;>intro hc<;>try omega)|apply BL|refine BF (hV) ?_)<;>conv=>whnf))
 exact M9 rfl
theorem AeW (I:e8 L) (N:z7 L) (n:Nt) (hn:IU n) (x:Int) (hx:0<=x/\x<=I2 n.d) :
  (∀ i,i<=6->OQ n.s.toNat (aN n) i->Ev L 365 [.agg (HV n),.int .i64 x] (.j5 [.bool (decide (∀ k,k<n.nodes.length->KB n (2^i) k x<=(I2 n.d:Rat))),.int .i64 0]))/\(vX n->Ev L 365 [.agg (HV n),.int .i64 x] (.j5 [.bool false,.int .i64 14])):=by
 obtain ⟨Ck,_,⟨Ac,_⟩,_⟩:=(J6 n).1 hn.jb;have Ld:=uG Ck;have o4:=hn.st;have mf:=hn.nl;have h24:(2:Nat)^24=16777216:=rfl;have hSm:=AeX I N n hn;have hH:=Vb n.d I;have hIn:=cG I x 0 (I2 n.d);rw[decide_eq_true hx]at hIn;have zo:=AeK I N.toeo n hn.jb (Su hn) hn.nl;have Qd:(L9 n).a=aN n:=(vY hn.jb).symm;have hL0:eS (L9 n)=[.sl false (eM (aN n)),.sl false ((L9 n).b.map eQ),.sl false ((L9 n).c.map eQ)]++eQ (L9 n).d:=by rw[<-Qd]
 rw[hL0]at zo;generalize (L9 n).b=lb at *;generalize (L9 n).c=lc at *;generalize (L9 n).d=ld at *;clear hL0 Qd;obtain ⟨w,hP,hw⟩:=Akf N.tofh false false (aN n) n.s.toNat 40000 (pP hn) (Abv hn) (by omega) (show 40000<=100000 by decide);have Kp:=YU N.toa8 (I2 n.d) (by omega);have Gz:=Bt.ofInt (show (I2 n.d).natAbs<=2^24 by omega);generalize Ig:I2 n.d=hi at *;refine ⟨λ i i1 i2 => ?_,λ Ak => ?_⟩
 ·have hw2:w = .j5 [.int .i64 ((2^i:Nat):Int),.int .i64 0]:=by
   rcases hw with ⟨j,j1,j2,rfl⟩|⟨nc,rfl⟩
   ·obtain rfl:=i2.uniq j2;rfl
   ·have:=nc i i1
    rw[i2.1]at this;cases this
  subst hw2;clear hw;have hRe:=λ(k:Nat) (hk:k<n.nodes.length)=>AeV I N n hn i i1 i2 (1+n.s.toNat+k) (by omega) x (by omega)
  have Mg : ∀ k:Nat,k<n.nodes.length->Bt 1000000000000 (KB n (2^i) k x)/\Ev L 364 [.agg (HV n),.int .i64 (1+n.s+(k:Int)),.int .i64 x] (.j5 [.agg (eQ (KB n (2^i) k x)),.int .i64 0]):=λ k hk=>by
   have:=hRe k hk
   rwa [Agh hn,show ((1+n.s.toNat+k:Nat):Int)=1+n.s+(k:Int) by omega]at this
  have yq:=λ k:Nat=>mO (x:=KB n (2^i) k x) (y:=(hi:Rat))
  have ta:=λ(k:Nat) (hk:k<n.nodes.length)=>rO N.toa8 (Mg k hk).1 Gz (by omega) (by omega)
  have hEv:=λ(k:Nat) (hk:k<n.nodes.length)=>(Mg k hk).2
  clear hRe Mg;obtain ⟨B,hB⟩ : ∃ B:Nat->Rat,∀ k,KB n (2^i) k x=B k:=⟨_,λ_=>rfl⟩;simp only[hB]at yq ta hEv ⊢;clear hB;generalize 2^i=p2 at *;refine Ev.x N.ZG rfl rfl ?_;(repeat' ((first|(apply B6<;>intro hc<;>try omega)|apply BL|refine BF (hSm) ?_|refine BF (hH) ?_|refine BF (hIn) ?_|refine BF (zo) ?_|refine BF (hP) ?_)<;>conv=>whnf))
  refine K7 (λ k=>n.nodes.length-k) (λ(k:Nat)=>k<=n.nodes.length /\ ∀ j,j<k->B j<=(hi:Rat)) (λ k=>[(10,.int .i64 k)]) (λ_=>[]) 0 ⟨by omega,by omega⟩ ?_;intro k ⟨k1,k2⟩ kh;by_cases hk:k<n.nodes.length
  ·have f1:=hEv k hk
   have f2:=ta k hk;have f3:=yq k;generalize w3 (B k-(hi:Rat)).num=sg at *;(repeat' ((first|(apply B6<;>intro hc<;>try omega)|(apply DD;omega)|apply C9|apply BL|refine BF (f1) ?_|refine BF (hH) ?_|refine BF (Kp) ?_|refine BF (f2) ?_)<;>conv=>whnf))
   ·have hd:decide (∀ k,k<n.nodes.length->B k<=(hi:Rat))=false:=decide_eq_false λ h=>by
     have h1:=h k hk;have h2:=f3.1 hc;grind
    rw[hd];exact DH rfl (by simp [EA,GK])
   ·have hle:B k<=(hi:Rat):=Rat.not_lt.1 λ h=>by have:=f3.2 h;omega
    exact FV [] (kh (k+1) (by omega) ⟨by omega,λ j hj=>by
     by_cases e:j=k
     ·rw[e];exact hle
     ·exact k2 j (by omega)⟩)
  have ek:k=n.nodes.length:=by omega
  clear kh;rw[ek]at k2 ⊢;rw[decide_eq_true k2];(repeat' ((first|(apply B6<;>intro hc<;>try omega)|apply C9|apply BL)<;>conv=>whnf))
  exact DH rfl (by simp [EA,GK])
 ·have hw2:w = .j5 [.int .i64 0,.int .i64 14]:=by
   rcases hw with ⟨j,j1,j2,rfl⟩|⟨nc,rfl⟩
   ·have:=Ak j j1
    rw[j2.1]at this;cases this
   ·rfl
  subst hw2;refine Ev.x N.ZG rfl rfl ?_;(repeat' ((first|(apply B6<;>intro hc<;>try omega)|apply BL|refine BF (hSm) ?_|refine BF (hH) ?_|refine BF (hIn) ?_|refine BF (zo) ?_|refine BF (hP) ?_)<;>conv=>whnf))
  exact DH rfl (by simp [EA,GK])
theorem AtK (I:e8 L) (N:z7 L) (n:Nt) (hn:IU n) :
  (∀ i,i<=6->OQ n.s.toNat (aN n) i->(∃ k,k<n.nodes.length/\(I2 n.d:Rat)<LZ n (2^i) (1+n.s.toNat+k))->Ev L 366 [.agg (HV n)] (.j5 [.int .i64 0,.int .i64 18]))/\(vX n->Ev L 366 [.agg (HV n)] (.j5 [.int .i64 0,.int .i64 14])):=by
 obtain ⟨Ck,_⟩:=(J6 n).1 hn.jb;have Ld:=uG Ck;obtain ⟨h1,h2⟩:=AeW I N n hn 0 (by omega);refine ⟨λ i i1 i2 ⟨k,hk,hr⟩ => ?_,λ Ak => ?_⟩
 ·have hs:=h1 i i1 i2
  rw[decide_eq_false λ h=>by
   have h3:=h k hk;rw[KB,show ((0:Int):Rat)=0 from rfl,Rat.mul_zero,Rat.zero_add]at h3;grind]at hs
  refine Ev.x N.ZF rfl rfl ?_;(repeat' ((first|(apply B6<;>intro hc<;>try omega)|apply BL|refine BF (hs) ?_)<;>conv=>whnf))
  exact DH rfl (by simp [EA,GK])
 ·have hs:=h2 Ak
  refine Ev.x N.ZF rfl rfl ?_;(repeat' ((first|(apply B6<;>intro hc<;>try omega)|apply BL|refine BF (hs) ?_)<;>conv=>whnf))
  exact DH rfl (by simp [EA,GK])
theorem AtI (N:ma L) (x:Rat) (k:Nat) (hx:Bt k x) (hk:k<2199023255552) :
  ((((-1099511627776:Int):Int):Rat)<=x->x<=((1099511627776:Int):Rat)->Ev L 361 [.agg (eQ x)] (.j5 [.int .i64 x.floor,.bool true]))/\(((1099511627776:Int):Rat)<x->Ev L 361 [.agg (eQ x)] (.j5 [.int .i64 0,.bool false])):=by
 have hO:=λ(m:Int) (hm : -1099511627776<=m/\m<=1099511627776)=>YU N.toa8 m (by omega)
 have bO:=λ(m:Int) (hm : -1099511627776<=m/\m<=1099511627776)=>Bt.ofInt (k:=41) (z:=m) (by
  have:(2:Nat)^41=2199023255552:=rfl
  omega)
 have hC:=λ m hm=>rO N.toa8 (bO m hm) hx (by omega) (by omega)
 have wh:=rO N.toa8 hx (bO 1099511627776 (by omega)) (by omega) (by omega);have hC2:=rO N.toa8 hx (bO (-1099511627776) (by omega)) (by omega) (by omega);have zq:=hO 1099511627776 (by omega);have hO2:=hO (-1099511627776) (by omega);have hL:=λ m:Int=>AwZ (m:=m) (x:=x)
 refine ⟨λ h1 h2 => ?_,λ h1 => ?_⟩
 ·have g1 : ¬ 0<w3 (x-((1099511627776:Int):Rat)).num:=λ h=>Rat.not_lt.2 h2 (And.1 h)
  have g2 : ¬ w3 (x-(((-1099511627776:Int)):Rat)).num<0:=λ h=>Rat.not_lt.2 h1 (AwY.1 h)
  have f1:=Rat.le_floor_iff.2 h1;have f2:x.floor<=1099511627776:=by
   have:=Rat.le_trans (Rat.floor_le x) h2
   exact Rat.intCast_le_intCast.1 this
  generalize w3 (x-((1099511627776:Int):Rat)).num=s1 at *;generalize w3 (x-(((-1099511627776:Int)):Rat)).num=s2 at *;generalize x.floor=F at *;refine Ev.x N.bF rfl rfl ?_;(repeat' ((first|(apply B6<;>intro hc<;>try omega)|apply BL|refine BF (zq) ?_|refine BF (hO2) ?_|refine BF (wh) ?_|refine BF (hC2) ?_)<;>conv=>whnf))
  refine MR (λ(lo:Int) (hi:Int)=>(hi-lo).toNat) (λ lo hi => -1099511627776<=lo/\lo<=F/\F<=hi/\hi<=1099511627776) (λ lo hi=>[(4,.int .i64 lo),(5,.int .i64 hi)]) (λ_ _=>[]) (-1099511627776) 1099511627776 (by omega) ?_;intro lo hi p1 ih;by_cases o5:lo<hi
  ·have hm : -1099511627776<=lo+(hi-lo+1)/2/\lo+(hi-lo+1)/2<=1099511627776:=by omega
   have hOm:=hO _ hm;have ta:=hC _ hm;have hLm:=hL (lo+(hi-lo+1)/2);by_cases hle:lo+(hi-lo+1)/2<=F
   ·have hs:=hLm.2 hle
    generalize w3 (((lo+(hi-lo+1)/2:Int):Rat)-x).num=s at *;(repeat' ((first|(apply B6<;>intro hc<;>try omega)|(apply DD;omega)|(apply F8;omega)|(refine Z2 ?_ ?_ (λ_ => ?_) (λ_ _ => ?_);omega;omega;all_goals try omega)|apply BL|refine BF (hOm) ?_|refine BF (ta) ?_)<;>conv=>whnf))
    exact GF [] (by (conv=>whnf);exact ⟨rfl,rfl,rfl⟩) (ih _ _ (by omega) (by omega))
   ·have hs : ¬ _:=λ h=>hle (hLm.1 h)
    generalize w3 (((lo+(hi-lo+1)/2:Int):Rat)-x).num=s at *;(repeat' ((first|(apply B6<;>intro hc<;>try omega)|(apply DD;omega)|(apply F8;omega)|(refine Z2 ?_ ?_ (λ_ => ?_) (λ_ _ => ?_);omega;omega;all_goals try omega)|apply BL|refine BF (hOm) ?_|refine BF (ta) ?_)<;>conv=>whnf))
    exact GF [] (by (conv=>whnf);exact ⟨rfl,rfl,rfl⟩) (ih _ _ (by omega) (by omega))
  ·obtain rfl:lo=F:=by omega
   clear ih;(repeat' ((first|(apply B6<;>intro hc<;>try omega)|apply BL)<;>conv=>whnf))
   exact DH rfl (Aiz _ _)
 ·have g1:=And.2 h1
  generalize w3 (x-((1099511627776:Int):Rat)).num=s1 at *;refine Ev.x N.bF rfl rfl ?_;(repeat' ((first|(apply B6<;>intro hc<;>try omega)|apply BL|refine BF (zq) ?_|refine BF (wh) ?_)<;>conv=>whnf))
  exact DH rfl (Aiz _ _)
abbrev rz:AV := .agg [.bool false,.sl false [],.sl false []]
theorem rG (e:Int):EA (.j5 [rz,.int .i64 e]):=by simp [EA,GK,L3]
def Ah0 (k:Nat) (w:AV):Prop:=(∃ x:Rat,Bt k x/\w = .j5 [.agg (eQ x),.int .i64 0]) \/ ∃ e:Int,w = .j5 [rz,.int .i64 e]
theorem AsV (I:e8 L) (N:gn L) (n:Nt) (hn:IU n) (x:Int) : ∃ w,Ev L 402 [.agg (HV n),.int .i64 x] w/\Ev L 362 [.agg (HV n),.int .i64 x] w/\Ah0 1 w:=by
 have hV:=AjV n I N.toff;have hR:=Vf n I N.toff;rw[hn.jb]at hV hR;have hIn:=cG I x 0 ((n.nodes.length:Int)-1);have mf:=hn.nl;by_cases hx:0<=x/\x<n.nodes.length
 ·obtain ⟨k,rfl⟩:=Int.eq_ofNat_of_zero_le hx.1
  obtain ⟨nd,hnd⟩ : ∃ nd,n.nodes[k]? = some nd:=⟨_,zE (by omega)⟩;have h1:=AjO N.tos8 n hn k nd hnd;refine ⟨_,?_,Ake I N.toz7 n hn k nd hnd,Or.inl ⟨_,(rY n nd).1,rfl⟩⟩;have da:=tN (KH n nd) 0;generalize KH n nd=l at *;refine Ev.x N.aS rfl rfl ?_;(repeat' ((first|(apply B6<;>intro hc<;>try omega)|apply C9|apply BL|refine BF (hV) ?_|refine BF (h1) ?_)<;>conv=>whnf))
  exact DH rfl da
 ·rw[decide_eq_false (by omega)]at hIn
  refine ⟨.j5 [rz,.int .i64 1],?_,?_,Or.inr ⟨1,rfl⟩⟩
  ·refine Ev.x N.aS rfl rfl ?_
   (repeat' ((first|(apply B6<;>intro hc<;>try omega)|apply C9|apply BL|refine BF (hV) ?_)<;>conv=>whnf))
   all_goals exact DH rfl (rG 1)
  ·refine Ev.x N.bG rfl rfl ?_
   (repeat' ((first|(apply F8;omega)|apply C9|apply BL|refine BF (hR) ?_|refine BF (hIn) ?_)<;>conv=>whnf))
   exact DH rfl (rG 1)
theorem AtL (I:e8 L) (N:z7 L) (n:Nt) (hn:IU n) (hU:vX n) (v:Nat) (hv:v<n.s.toNat+1+n.nodes.length) (x:Int):Ev L 364 [.agg (HV n),.int .i64 (v:Int),.int .i64 x] (.j5 [rz,.int .i64 14]):=by
 have o4:=hn.st;have nc:=AmE hn hv;obtain ⟨_,_,⟨Ac,_⟩,_⟩:=(J6 n).1 hn.jb;have zo:=AeK I N.toeo (KQ n v) nc.jb (Su nc) nc.nl;have Gx:(L9 (KQ n v)).a=aN n:=(vY hn.jb).symm;have Xd:=AtO N (L9 (KQ n v)) n.s.toNat (Ab9 hn v) (by omega) (by rw[Gx];exact hU);generalize L9 (KQ n v)=S at *;refine Ev.x N.bH rfl rfl ?_;(repeat' ((first|(apply B6<;>intro hc<;>try omega)|apply BL|refine BF (zo) ?_|refine BF (Xd) ?_)<;>conv=>whnf))
 exact DH rfl (rG 14)
theorem AsP (I:e8 L) (N:gn L) (n:Nt) (hn:IU n) (v x:Int) : ∃ w,Ev L 360 [.agg (HV n),.int .i64 v,.int .i64 x] w/\Ev L 403 [.agg (HV n),.int .i64 v,.int .i64 x] w/\Ah0 1000000000000 w:=by
 obtain ⟨Ck,_,⟨Ac,_⟩,_⟩:=(J6 n).1 hn.jb;have Ld:=uG Ck;have o4:=hn.st;have mf:=hn.nl;have R:z7 L:=N.toz7;have hU:=Vg I N.tos8 n hn;have hH:=xB n.d I;have hSm:=AeX I R n hn;have Wu:=Vb n.d I;have Pk:=cG I v 0 (n.s+(n.nodes.length:Int));have Kn:=cG I x 0 (I2 n.d);by_cases hv:0<=v/\v<=n.s+(n.nodes.length:Int)
 ·rw[decide_eq_true hv]at Pk
  by_cases hx:0<=x/\x<=I2 n.d
  ·rw[decide_eq_true hx]at Kn
   obtain ⟨u,rfl⟩:=Int.eq_ofNat_of_zero_le hv.1;obtain ⟨w,g1,g2⟩:=AsO I N.touf n hn u (by omega) x hx;rcases g2 with ⟨i,i1,i2,i3,rfl⟩|⟨Ak,rfl⟩
   ·obtain ⟨r1,r2⟩:=AeV I R n hn i i1 i2 u (by omega) x (by omega)
    have e:aB n i u x n.nodes.length=oZ n i u x:=by rw[aB,<-Am6 hn.jb,oZ,Rat.mul_comm]
    rw[e]at r1 r2;refine ⟨_,g1,?_,Or.inl ⟨_,r1,rfl⟩⟩;have da:=tN (oZ n i u x) 0;generalize oZ n i u x=b at *;generalize I2 n.d=hi at *;refine Ev.x N.XB rfl rfl ?_;(repeat' ((first|(apply DD;omega)|apply C9|apply BL|refine BF (hSm) ?_|refine BF (Pk) ?_|refine BF (Wu) ?_|refine BF (Kn) ?_|refine BF (r2) ?_)<;>conv=>whnf))
    exact DH rfl da
   ·have r2:=AtL I R n hn Ak u (by omega) x
    refine ⟨_,g1,?_,Or.inr ⟨14,rfl⟩⟩;generalize I2 n.d=hi at *;refine Ev.x N.XB rfl rfl ?_;(repeat' ((first|(apply DD;omega)|apply C9|apply BL|refine BF (hSm) ?_|refine BF (Pk) ?_|refine BF (Wu) ?_|refine BF (Kn) ?_|refine BF (r2) ?_)<;>conv=>whnf))
    exact DH rfl (rG 14)
  ·rw[decide_eq_false hx]at Kn
   refine ⟨.j5 [rz,.int .i64 1],?_,?_,Or.inr ⟨1,rfl⟩⟩
   ·generalize I2 n.d=hi at *
    refine Ev.x N.Y3 rfl rfl ?_;(repeat' ((first|(apply B6<;>intro hc<;>try omega)|(apply DD;omega)|apply C9|apply BL|refine BF (hU) ?_|refine BF (hH) ?_)<;>conv=>whnf))
    all_goals exact DH rfl (rG 1)
   ·generalize I2 n.d=hi at *
    refine Ev.x N.XB rfl rfl ?_;(repeat' ((first|(apply DD;omega)|apply C9|apply BL|refine BF (hSm) ?_|refine BF (Pk) ?_|refine BF (Wu) ?_|refine BF (Kn) ?_)<;>conv=>whnf))
    exact DH rfl (rG 1)
 ·rw[decide_eq_false hv]at Pk
  refine ⟨.j5 [rz,.int .i64 1],?_,?_,Or.inr ⟨1,rfl⟩⟩
  ·generalize I2 n.d=hi at *
   refine Ev.x N.Y3 rfl rfl ?_;(repeat' ((first|(apply B6<;>intro hc<;>try omega)|(apply DD;omega)|apply C9|apply BL|refine BF (hU) ?_)<;>conv=>whnf))
   all_goals exact DH rfl (rG 1)
  ·refine Ev.x N.XB rfl rfl ?_
   (repeat' ((first|(apply DD;omega)|apply C9|apply BL|refine BF (hSm) ?_|refine BF (Pk) ?_)<;>conv=>whnf))
   exact DH rfl (rG 1)
theorem As0 (I:e8 L) (N:gn L) (n:Nt) (hn:IU n) (x:Int) : ∃ (b:Bool) (e:Int),Ev L 357 [.agg (HV n),.int .i64 x] (.j5 [.bool b,.int .i64 e])/\Ev L 365 [.agg (HV n),.int .i64 x] (.j5 [.bool b,.int .i64 e]):=by
 have R:z7 L:=N.toz7;have B:s8 L:=N.tos8;by_cases hx:0<=x/\x<=I2 n.d
 ·obtain ⟨v,h1,h2⟩:=AsZ I B n hn x hx
  obtain ⟨g1,g2⟩:=AeW I R n hn x hx;rcases h2 with ⟨i,i1,i2,rfl⟩|⟨Ak,rfl⟩
  ·exact ⟨_,_,h1,g1 i i1 i2⟩
  ·exact ⟨_,_,h1,g2 Ak⟩
 ·have hU:=Vg I B n hn
  have hH:=xB n.d I;have hSm:=AeX I R n hn;have Wu:=Vb n.d I;have Kn:=cG I x 0 (I2 n.d);rw[decide_eq_false hx]at Kn;generalize I2 n.d=hi at *;refine ⟨false,1,?_,?_⟩
  ·refine Ev.x B.aU rfl rfl ?_
   (repeat' ((first|(apply B6<;>intro hc<;>try omega)|apply BL|refine BF (hU) ?_|refine BF (hH) ?_)<;>conv=>whnf))
   all_goals exact DH rfl (by simp [EA,GK])
  ·refine Ev.x R.ZG rfl rfl ?_
   (repeat' ((first|apply BL|refine BF (hSm) ?_|refine BF (Wu) ?_|refine BF (Kn) ?_)<;>conv=>whnf))
   exact DH rfl (by simp [EA,GK])
theorem AtV (N:dm L) {x:Rat} {k:Nat} (hx:Bt k x) (hk:k<2199023255552):Ev L 155 [.agg (eQ x)] (.int .i64 (w3 x.num)):=by
 have hm:=hx.tn hk;obtain ⟨n',m',d',hp,s1,s2,s3,s4⟩:=oB N.toa8 (decide (x.num<0)) false (dg x.num.natAbs) (dg x.den) 274877906943 (by omega) (hm.1.le (by omega)) (hm.2.le (by omega));have hS:=λ q=>Uv N.toa8 n' q m' (s1.le (by omega))
 rw[MY]at s4;have hz:w3 (zv n' m')=w3 x.num:=by rw[s4];exact (AfH s3).symm
 rw[hz]at hS;refine Ev.x N.lE rfl rfl ?_;(repeat' ((first|apply BL|refine BF (hp) ?_|refine BF (hS _) ?_)<;>conv=>whnf))
 exact IC rfl
theorem Aw2 {z:Int}:0<w3 z↔0<z:=by unfold w3;split<;>(try split)<;>omega
def rD (n:Nt) (p K:Nat) (m:Int):Prop:=0<=m/\m<=I2 n.d /\ ∀ x:Int,0<=x->x<=I2 n.d->(x<=m ↔ ∀ k,k<K->KB n p k x<=(I2 n.d:Rat))
theorem AxW {n:Nt} {p K:Nat} {m:Int} (h:rD n p K m) {o:Int} (Ny:0<=o) (hom:o<=m) (ho : ∀ x:Int,0<=x->x<=m->(x<=o↔KB n p K x<=(I2 n.d:Rat))):rD n p (K+1) o:=by
 obtain ⟨h1,h2,h3⟩:=h;refine ⟨Ny,by omega,λ x x0 x1 => ?_⟩;constructor
 ·intro hx k hk
  by_cases e:k=K
  ·subst e;exact (ho x x0 (by omega)).1 hx
  ·exact (h3 x x0 x1).1 (by omega) k (by omega)
 ·intro hx
  have hm:=(h3 x x0 x1).2 λ k hk=>hx k (by omega)
  exact (ho x x0 hm).2 (hx K (by omega))
theorem AxX {n:Nt} {p K:Nat} {m o:Int} (h:rD n p K m) (g:rD n p K o):m=o:=by
 have h1:=(g.2.2 m h.1 h.2.1).2 ((h.2.2 m h.1 h.2.1).1 (Int.le_refl _));have h2:=(h.2.2 o g.1 g.2.1).2 ((g.2.2 o g.1 g.2.1).1 (Int.le_refl _));omega
theorem At7 {a r h:Rat} (ha:0<a) (x:Int):a*(x:Rat)+r<=h↔x<=((h-r)/a).floor:=by
 rw[Rat.le_floor_iff,Rat.div_def];have hi:=Rat.inv_pos.2 ha;have hc:=Rat.mul_inv_cancel a (by grind);constructor
 ·intro hx
  have h1:(x:Rat)*a<=h-r:=by grind
  have h2:=Rat.mul_le_mul_of_nonneg_right h1 (Rat.le_of_lt hi);rwa [Rat.mul_assoc,hc,Rat.mul_one]at h2
 ·intro hx
  have h1:=Rat.mul_le_mul_of_nonneg_right hx (Rat.le_of_lt ha);rw[Rat.mul_assoc,Rat.mul_comm a⁻¹,hc,Rat.mul_one]at h1;grind
theorem AtJ (I:e8 L) (N:z7 L) (n:Nt) (hn:IU n) (i:Nat) (i1:i<=6) (i2:OQ n.s.toNat (aN n) i) (h0 : ∀ k,k<n.nodes.length->LZ n (2^i) (1+n.s.toNat+k)<=(I2 n.d:Rat)) : ∃ m:Int,Ev L 366 [.agg (HV n)] (.j5 [.int .i64 m,.int .i64 0])/\rD n (2^i) n.nodes.length m:=by
 suffices h : ∃ v,Ev L 366 [.agg (HV n)] v /\ ∃ m:Int,v = .j5 [.int .i64 m,.int .i64 0]/\rD n (2^i) n.nodes.length m by
  obtain ⟨v,h1,m,rfl,h2⟩:=h;exact ⟨m,h1,h2⟩
 obtain ⟨Ck,_,⟨Ac,_⟩,_⟩:=(J6 n).1 hn.jb;have Ld:=uG Ck;have o4:=hn.st;have mf:=hn.nl;have h24:(2:Nat)^24=16777216:=rfl;obtain ⟨g1,_,g3⟩:=cT i1;have Xq : ∀ k,KB n (2^i) k 0=LZ n (2^i) (1+n.s.toNat+k):=λ k=>by rw[KB,show ((0:Int):Rat)=0 from rfl,Rat.mul_zero,Rat.zero_add]
 have AD4 : ∀ k,KB n (2^i) k 1=MP n (2^i) (1+n.s.toNat+k)+LZ n (2^i) (1+n.s.toNat+k):=λ k=>by rw[KB,show ((1:Int):Rat)=1 from rfl,Rat.mul_one]
 have hs:=(AeW I N n hn 0 (by omega)).1 i i1 i2;rw[decide_eq_true λ k hk=>by rw[Xq];exact h0 k hk]at hs;have hH:=Vb n.d I;have hRe:=λ(x:Int) (hx:0<=x/\x<=1) (k:Nat) (hk:k<n.nodes.length)=>AeV I N n hn i i1 i2 (1+n.s.toNat+k) (by omega) x (by omega)
 have hR0 : ∀ k:Nat,k<n.nodes.length->Bt 1000000000000 (LZ n (2^i) (1+n.s.toNat+k))/\Ev L 364 [.agg (HV n),.int .i64 (1+n.s+(k:Int)),.int .i64 0] (.j5 [.agg (eQ (LZ n (2^i) (1+n.s.toNat+k))),.int .i64 0]):=λ k hk=>by
  have:=hRe 0 (by omega) k hk
  rwa [Agh hn,Xq,show ((1+n.s.toNat+k:Nat):Int)=1+n.s+(k:Int) by omega]at this
 have hR1 : ∀ k:Nat,k<n.nodes.length->Bt 1000000000000 (MP n (2^i) (1+n.s.toNat+k)+LZ n (2^i) (1+n.s.toNat+k))/\Ev L 364 [.agg (HV n),.int .i64 (1+n.s+(k:Int)),.int .i64 1] (.j5 [.agg (eQ (MP n (2^i) (1+n.s.toNat+k)+LZ n (2^i) (1+n.s.toNat+k))),.int .i64 0]):=λ k hk=>by
  have:=hRe 1 (by omega) k hk
  rwa [Agh hn,AD4,show ((1+n.s.toNat+k:Nat):Int)=1+n.s+(k:Int) by omega]at this
 have Pl : ∀ k:Nat,k<n.nodes.length->Bt 100000000000 (MP n (2^i) (1+n.s.toNat+k)):=λ k hk=>by
  rw[AmR hn.jb];exact Ahh (Ab9 hn _) (by omega) (by omega) g1
 have Fk : ∀ k,0<=MP n (2^i) (1+n.s.toNat+k):=λ k=>AmQ n _ _
 clear hRe;have Kp:=YU N.toa8 (I2 n.d) (by omega);have Gz:=Bt.ofInt (show (I2 n.d).natAbs<=2^24 by omega);have hU0:rD n (2^i) 0 (I2 n.d):=⟨Ld.1,Int.le_refl _,λ x x0 x1=>⟨λ_ k hk=>absurd hk (by omega),λ_=>x1⟩⟩;generalize Ig:I2 n.d=hi at *;refine Ev.xE N.ZF rfl rfl ?_;(repeat' ((first|(apply B6<;>intro hc<;>try omega)|apply BL|refine BF (hs) ?_|refine BF (hH) ?_)<;>conv=>whnf))
 refine MR (λ k _=>n.nodes.length-k) (λ(k:Nat) (o:Int)=>k<=n.nodes.length/\rD n (2^i) k o) (λ k o=>[(7,.int .i64 k),(6,.int .i64 o)]) (λ_ _=>[]) 0 hi ⟨by omega,hU0⟩ ?_;intro k o ⟨k1,k2⟩ kh;by_cases hk:k<n.nodes.length
 ·obtain ⟨b0,f0⟩:=hR0 k hk
  obtain ⟨b1,f1⟩:=hR1 k hk;have ba:=Pl k hk;have han:=Fk k;have hh0:=h0 k hk;have hu:=λ(o':Int)=>AxW (o:=o') k2
  have fk : ∀ x:Int,KB n (2^i) k x=MP n (2^i) (1+n.s.toNat+k)*(x:Rat)+LZ n (2^i) (1+n.s.toNat+k):=λ_=>rfl
  simp only[fk,Ig]at hu;have hSl:=Ako N.todm b1 b0 (by omega) (by omega);rw[show MP n (2^i) (1+n.s.toNat+k)+LZ n (2^i) (1+n.s.toNat+k)-LZ n (2^i) (1+n.s.toNat+k)=MP n (2^i) (1+n.s.toNat+k) by grind]at hSl;have Xj:=Ako N.todm Gz b0 (by omega) (by omega);generalize MP n (2^i) (1+n.s.toNat+k)=a at *;generalize LZ n (2^i) (1+n.s.toNat+k)=r at *;have Hv:=AtV N.todm ba (by omega);have hsp:0<w3 a.num↔0<a:=by rw[Aw2,AfR]
  by_cases ha:0<a
  ·have Hg:=hsp.2 ha
   have xi:=λ x=>At7 (r:=r) (h:=(hi:Rat)) ha x
   have hD:=As8 N.todm (Gz.Zz b0) ba (by omega) (by omega) (by grind);have Dr:Bt 1200000000000 (((hi:Rat)-r)/a):=((Gz.Zz b0).zj ba).le (by omega);obtain ⟨c1,c2⟩:=AtI N.toma (((hi:Rat)-r)/a) 1200000000000 Dr (by omega);have Bi:0<=((hi:Rat)-r)/a:=by
    rw[Rat.div_def];exact Rat.mul_nonneg (by grind) (Rat.le_of_lt (Rat.inv_pos.2 ha))
   generalize ((hi:Rat)-r)/a=q at *;have hF0:0<=q.floor:=Rat.le_floor_iff.2 Bi;generalize w3 a.num=sa at *;by_cases hq:q<=((1099511627776:Int):Rat)
   ·have f3:=c1 (Rat.le_trans (by decide) Bi) hq
    have hF2:q.floor<=1099511627776:=Rat.intCast_le_intCast.1 (Rat.le_trans (Rat.floor_le q) hq);generalize q.floor=F at *;have Ny:=k2.1;have ho1:=k2.2.1;rw[Ig]at ho1;(repeat' ((first|(apply B6<;>intro hc<;>try omega)|(apply DD;omega)|apply C9|apply BL|refine BF (f0) ?_|refine BF (f1) ?_|refine BF (hSl) ?_|refine BF (Hv) ?_|refine BF (Kp) ?_|refine BF (hH) ?_|refine BF (Xj) ?_|refine BF (hD) ?_|refine BF (f3) ?_)<;>conv=>whnf))
    ·exact GF [] (by (conv=>whnf);exact ⟨rfl,rfl,rfl⟩) (kh (k+1) F (by omega) ⟨by omega,hu F hF0 (by omega) λ x _ _=>(xi x).symm⟩)
    ·exact GF [] (by (conv=>whnf);exact ⟨rfl,rfl,rfl⟩) (kh (k+1) o (by omega) ⟨by omega,hu o Ny (by omega) λ x _ x1=>⟨λ_=>(xi x).2 (by omega),λ_=>x1⟩⟩)
   ·have f3:=c2 (Rat.not_le.1 hq)
    have Ny:=k2.1;have ho1:=k2.2.1;rw[Ig]at ho1;(repeat' ((first|(apply B6<;>intro hc<;>try omega)|(apply DD;omega)|apply C9|apply BL|refine BF (f0) ?_|refine BF (f1) ?_|refine BF (hSl) ?_|refine BF (Hv) ?_|refine BF (Kp) ?_|refine BF (hH) ?_|refine BF (Xj) ?_|refine BF (hD) ?_|refine BF (f3) ?_)<;>conv=>whnf))
    exact GF [] (by (conv=>whnf);exact ⟨rfl,rfl,rfl⟩) (kh (k+1) o (by omega) ⟨by omega,hu o Ny (by omega) λ x _ x1=>⟨λ_=>(xi x).2 (Rat.le_floor_iff.2 (Rat.le_trans (Rat.intCast_le_intCast.2 (show x<=1099511627776 by omega)) (Rat.le_of_lt (Rat.not_le.1 hq)))),λ_=>x1⟩⟩)
  ·have Hg : ¬ 0<w3 a.num:=λ h=>ha (hsp.1 h)
   generalize w3 a.num=sa at *;have Ny:=k2.1;have Gx:a=0:=by grind
   (repeat' ((first|(apply B6<;>intro hc<;>try omega)|(apply DD;omega)|apply C9|apply BL|refine BF (f0) ?_|refine BF (f1) ?_|refine BF (hSl) ?_|refine BF (Hv) ?_)<;>conv=>whnf))
   exact GF [] (by (conv=>whnf);exact ⟨rfl,rfl,rfl⟩) (kh (k+1) o (by omega) ⟨by omega,hu o Ny (by omega) λ x _ x1=>⟨λ_=>by rw[Gx,Rat.zero_mul,Rat.zero_add];exact hh0,λ_=>x1⟩⟩)
 have ek:k=n.nodes.length:=by omega
 clear kh;rw[ek]at k2 ⊢;(repeat' ((first|(apply B6<;>intro hc<;>try omega)|apply C9|apply BL)<;>conv=>whnf))
 exact ⟨_,DH rfl (by simp [EA,GK]),o,rfl,k2⟩
theorem AsX (I:e8 L) (N:gn L) (n:Nt) (hn:IU n) : ∃ m e:Int,Ev L 358 [.agg (HV n)] (.j5 [.int .i64 m,.int .i64 e])/\Ev L 366 [.agg (HV n)] (.j5 [.int .i64 m,.int .i64 e]):=by
 have R:z7 L:=N.toz7;obtain ⟨v,h1,h2⟩:=AsW I N.tos8 n hn;obtain ⟨g1,g2⟩:=AtK I R n hn;rcases h2 with ⟨i,i1,i2,hv⟩|⟨Ak,rfl⟩
 ·rcases hv with ⟨m,m0,m1,rfl,hm⟩|⟨k,hk,hr,rfl⟩
  ·have h0 : ∀ k,k<n.nodes.length->LZ n (2^i) (1+n.s.toNat+k)<=(I2 n.d:Rat):=λ k hk=>by
    have:=(hm 0 (Int.le_refl _) (by omega)).1 m0 k hk
    rwa [KB,show ((0:Int):Rat)=0 from rfl,Rat.mul_zero,Rat.zero_add]at this
   obtain ⟨o,f1,f2⟩:=AtJ I R n hn i i1 i2 h0;obtain rfl:=AxX ⟨m0,m1,hm⟩ f2;exact ⟨_,_,h1,f1⟩
  ·exact ⟨_,_,h1,g1 i i1 i2 ⟨k,hk,hr⟩⟩
 ·exact ⟨_,_,h1,g2 Ak⟩
theorem As4 (N:a8 L):Ev L 127 [rz,rz] (.int .i64 0):=by
 have:=Akc N 1 (by omega) false false false false [] [] [] [] (yN _) (yN _) (yN _) (yN _)
 rw[AcL.2 rfl]at this;exact this
theorem Ati (I:e8 L) (W:cj L) (N:vz L) (kd dk ck:Int) (h0:LU kd) (h1:LU dk) (h2:LU ck) (b a:List Int) (q1 q2:Bool) (lb:b.length<9223372036854775808) (la:a.length<9223372036854775808) (oy : ∀ v∈a,LU v) (value node input:Int) (yj:LU input) :
  Ev L 404 [.agg [.int .i64 kd,.int .i64 dk,.int .i64 ck,.sl q1 (b.map IM),.sl q2 (a.map IM)],.int .i64 value,.int .i64 node,.int .i64 input] (.bool true):=by
 have hkn:=Atf N.topz;obtain ⟨n,hn,hP⟩:=AsY I W N.toil kd dk ck h0 h1 h2 b a q1 q2 lb la oy;have hW:=tZ W input 40 yj (by omega);obtain ⟨g3,g4⟩:=oX (v:=input) (m:=40) (by omega);generalize J1 input 40=z at *;obtain ⟨w1,a1,a2,a3⟩:=AsV I N.togn n hn node;obtain ⟨w2,b1,b2,b3⟩:=AsP I N.togn n hn value (z-2);obtain ⟨bs,es,c1,c2⟩:=As0 I N.togn n hn (z-2);obtain ⟨m,el,d1,d2⟩:=AsX I N.togn n hn;have hz:=As4 N.toa8;have hx : ∀ {x:Rat} {k:Nat},Bt k x->k<2199023255552->Ev L 127 [.agg (eQ x),.agg (eQ x)] (.int .i64 0):=λ{x k} h hk=>by
  have:=rO N.toa8 h h hk hk
  rwa [AcL.2 rfl]at this
 rcases a3 with ⟨x,bx,rfl⟩|⟨e1,rfl⟩
 ·have hcx:=hx bx (by omega)
  rcases b3 with ⟨y,Pg,rfl⟩|⟨e2,rfl⟩
  ·have Mv:=hx Pg (by omega)
   cases bs;all_goals
    refine Ev.x N.W4 rfl rfl ?_;(repeat' ((first|(apply B6<;>intro hc<;>try omega)|(apply F8;omega)|apply BL|refine BF (hP) ?_|refine BF (hW) ?_|refine BF (a1) ?_|refine BF (a2) ?_|refine BF (b1) ?_|refine BF (b2) ?_|refine BF (c1) ?_|refine BF (c2) ?_|refine BF (d1) ?_|refine BF (d2) ?_|refine BF (hkn) ?_|refine BF (hcx) ?_|refine BF (Mv) ?_)<;>conv=>whnf))
    exact M9 rfl
  ·cases bs
   all_goals
    refine Ev.x N.W4 rfl rfl ?_;(repeat' ((first|(apply B6<;>intro hc<;>try omega)|(apply F8;omega)|apply BL|refine BF (hP) ?_|refine BF (hW) ?_|refine BF (a1) ?_|refine BF (a2) ?_|refine BF (b1) ?_|refine BF (b2) ?_|refine BF (c1) ?_|refine BF (c2) ?_|refine BF (d1) ?_|refine BF (d2) ?_|refine BF (hkn) ?_|refine BF (hcx) ?_|refine BF (hz) ?_)<;>conv=>whnf))
    exact M9 rfl
 ·rcases b3 with ⟨y,Pg,rfl⟩|⟨e2,rfl⟩
  ·have Mv:=hx Pg (by omega)
   cases bs;all_goals
    refine Ev.x N.W4 rfl rfl ?_;(repeat' ((first|(apply B6<;>intro hc<;>try omega)|(apply F8;omega)|apply BL|refine BF (hP) ?_|refine BF (hW) ?_|refine BF (a1) ?_|refine BF (a2) ?_|refine BF (b1) ?_|refine BF (b2) ?_|refine BF (c1) ?_|refine BF (c2) ?_|refine BF (d1) ?_|refine BF (d2) ?_|refine BF (hkn) ?_|refine BF (hz) ?_|refine BF (Mv) ?_)<;>conv=>whnf))
    exact M9 rfl
  ·cases bs
   all_goals
    refine Ev.x N.W4 rfl rfl ?_;(repeat' ((first|(apply B6<;>intro hc<;>try omega)|(apply F8;omega)|apply BL|refine BF (hP) ?_|refine BF (hW) ?_|refine BF (a1) ?_|refine BF (a2) ?_|refine BF (b1) ?_|refine BF (b2) ?_|refine BF (c1) ?_|refine BF (c2) ?_|refine BF (d1) ?_|refine BF (d2) ?_|refine BF (hkn) ?_|refine BF (hz) ?_)<;>conv=>whnf))
    exact M9 rfl
end Go.c9
