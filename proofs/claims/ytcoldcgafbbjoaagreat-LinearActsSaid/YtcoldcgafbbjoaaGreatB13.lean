/-
  Solve and Inverse (layer 9).
-/
import Derived.Test.YtcoldcgafbbjoaaGreatB12
import Derived.Test.YtcoldcgafbbjoaaGreatB1
import Derived.Test.YtcoldcgafbbjoaaGreatB11
import Derived.Test.YtcoldcgafbbjoaaGreatB2
import Derived.Test.YtcoldcgafbbjoaaGreatB9
import Derived.Test.YtcoldcgafbbjoaaGreatB8
set_option linter.unusedSimpArgs false
set_option linter.unusedVariables false
set_option linter.unnecessarySimpa false
namespace Go.g6
open F
attribute [local irreducible] AA AF AM AD CZ AX A9 BG B8 B6 CT D8 B9 BF B1 CR AB A6 AJ pw BN BH CQ CK C6 C7 CW BV D4
variable {L:Lib}
set_option maxHeartbeats 16000000
theorem Afm {x:Rat} {b:List Rat} {i:Nat} (h:b[i]? = some x):(b.map λ x=>[x])[i]? = some [x]:=by rw[List.getElem?_map,h];rfl
theorem lA (y:List Rat) (e:Int):A7 (.g9 [.sl false (y.map eQ),.int .i64 e]):=by
 simp only[A7,CJ,and_true,true_and];exact bV y
def OD (x:AQ):Option (Nat × List (List AV)):=some (3,[eW x])
theorem aD (b:List AQ):vM (b.map λ x=>[x])=(b.map AQ.v).map λ x=>[x]:=by simp [vM,List.map_map,Function.comp_def]
def Fs (k:Nat) (r:List AQ):Prop := ∀ x∈r,x.Fit k
theorem Fs.of {k:Nat} {r:List Rat} (h:Bs k r) (hk:k<2199023255552):Fs k (wR r):=λ x hx=>by
 obtain ⟨y,hy,rfl⟩:=List.mem_map.1 hx;exact RF (h y hy) hk
theorem Fs.bs {k:Nat} {r:List AQ} (h:Fs k r):Bs k (r.map AQ.v):=λ x hx=>by
 obtain ⟨y,hy,rfl⟩:=List.mem_map.1 hx;exact (h y hy).1
theorem nS (N:e8 L) (q q1 q2:Bool) (aw:List (List AQ)) (bw:List AQ) (n k K0:Nat) (k7:aw.length=n) (j9 : ∀ r∈aw,r.length=n) (bp:bw.length=n) (hn:1<=n/\n<=52) (wz:k<=K0) (nb:1<=K0) (cq:CD k aw) (kj:Fs k bw)
  (eo : ∀ r∈DI (vM aw) ((bw.map AQ.v).map λ x=>[x]),∀ j,Bt K0 (AZ (r.take j))) (xp:Ms K0 (whole (DI (vM aw) ((bw.map AQ.v).map λ x=>[x]))))
  (hB:6^n*K0<=1000000000000) (hC:DU (6^n*K0) n n<=1000000000000) {B0:Nat} (uq:DU (6^n*K0) n n+6^n*K0<=B0) :
  ∃ v,Ev L 237 [.sl q (BO q1 aw),.sl q2 (bw.map eW)] v/\((¬ NS n (vM aw)/\v = .g9 [.sl false [],.int .i64 11])\/(NS n (vM aw) /\ ∃ y:List Rat,v = .g9 [.sl false (y.map eQ),.int .i64 0] /\
   y.length=n/\Bs B0 y /\ ∀ (i:Nat) (r:List Rat) (s:Rat),(vM aw)[i]? = some r->(bw.map AQ.v)[i]? = some s->A5 r y=s)):=by
 obtain ⟨a,v8⟩ : ∃ a,vM aw=a:=⟨_,rfl⟩;obtain ⟨b,gv⟩ : ∃ b,bw.map AQ.v=b:=⟨_,rfl⟩;have hV:=PQ N q q1 aw n n k7 j9 hn hn;obtain ⟨r0,k9⟩ : ∃ r,aw[0]? = some r:=⟨_,zE (by omega)⟩;have ek:aw[(0:Int).toNat]? = some r0:=k9;have da:=j9 r0 (zM k9);obtain ⟨v,hS,df⟩:=oX N q q1 true true aw (bw.map λ x=>[x]) n 1 k K0 k7 j9 (by rw[List.length_map];exact bp) (λ r hr=>by obtain ⟨x,_,rfl⟩:=List.mem_map.1 hr;rfl) hn (by omega) wz nb cq (λ r hr=>by
  obtain ⟨x,hx,rfl⟩:=List.mem_map.1 hr;intro z hz;obtain rfl:=List.mem_singleton.1 hz;exact kj z hx) (by rw[aD];exact eo) (by rw[aD];exact xp) hB hC uq
 rw[aD,v8,gv]at df;rw[v8,gv];refine Ev.xE N.H9 rfl rfl ?_;(repeat' ((first|(apply AG<;>intro hc<;>try omega)|apply AW|(refine BD (by assumption) ?_ rfl ?_;omega)|apply AC|refine AE (hV) ?_)<;>conv=>whnf))
 unfold C6;refine ⟨⟨by omega,by omega,by simp only[D5];omega,by omega⟩,?_⟩;rw[Int.toNat_natCast,bp];(conv=>whnf)
 (repeat' (apply AW<;>conv=>whnf))
 refine D0 (λ i=>n-i) (λ(i:Nat)=>i<=n) (λ i=>[(35,.int .i64 i)]) (λ i=>[(32,32,.mx (fz none ((bw.take i).map OD) n))]) [] [] 0 (by first|exact (by (conv=>whnf);exact ⟨rfl,rfl,rfl⟩)|(rw[List.take_zero,List.map_nil,show fz (none:Option (Nat × List (List AV))) [] n=List.replicate n none by simp [fz]];exact (by (conv=>whnf);exact ⟨rfl,rfl,rfl⟩))) (by omega) ?_;intro i p1 ih;have lu:=dR (z:=(none:Option (Nat × List (List AV)))) (l:=(bw.take i).map OD) (m:=n) (by rw[List.length_map,List.length_take];omega);by_cases hi:i<n
 ·obtain ⟨x,hx⟩ : ∃ x,bw[i]? = some x:=⟨_,zE (by omega)⟩
  have mw:bw[(i:Int).toNat]? = some x:=hx;have jc:=dS (z:=(none:Option (Nat × List (List AV)))) (x:=OD x) (l:=(bw.take i).map OD) (m:=n) (by rw[List.length_map,List.length_take];omega);rw[List.length_map,List.length_take,Nat.min_eq_left (by omega),show (bw.take i).map OD++[OD x]=(bw.take (i+1)).map OD by rw[List.take_add_one,hx,List.map_append];rfl]at jc;generalize fz (none:Option (Nat × List (List AV))) ((bw.take i).map OD) n=J at *;have Lm:J.set i (some (3,[[AV.bool x.n,AV.sl false (x.m.map AL),AV.sl false (x.d.map AL)]]))=fz none ((bw.take (i+1)).map OD) n:=jc;(repeat' ((first|(apply AG<;>intro hc<;>try omega)|(apply AU;omega)|(refine BD (by assumption) ?_ rfl ?_;omega)|apply AC)<;>conv=>whnf))
  unfold AM CQ;refine ⟨by simp,by omega,?_⟩;(conv=>whnf)
  rw[show 0+((i:Int)).toNat=i by omega,Lm];(repeat' ((first|(apply A0;omega)|fail)<;>conv=>whnf))
  exact BR [] (ih (i+1) (by omega) (by omega))
 have ei:i=n:=by omega
 clear ih lu;rw[ei,zT (by omega),dQ (by rw[List.length_map];exact bp),show bw.map OD=A8 3 eW (bw.map λ x=>[x]) by rw[A8,List.map_map];rfl];(repeat' ((first|(apply AG<;>intro hc<;>try omega)|(refine KH (λ_=>rfl) rfl ?_ ?_;(first|rfl|simp))|apply AC)<;>conv=>whnf))
 ·exact bp.symm
 (conv=>whnf)
 rcases df with ⟨ic,rfl⟩|⟨ic,y,rfl,hy⟩
 ·(repeat' ((first|(apply AG<;>intro hc<;>try omega)|refine AE (hS) ?_)<;>conv=>whnf))
  refine ⟨.g9 [.sl false [],.int .i64 11],?_,Or.inl ⟨ic,rfl⟩⟩;(conv=>whnf)
  exact AY rfl (H2 [] 11)
 ·obtain ⟨uf,ue,xu⟩:=hy 0 (by omega)
  have yv : ∀ e,e<n->(JW y n 1)[e]? = some [(y 0).getD e 0]:=λ e he=>by simp [JW,he]
  have Al:(JW y n 1).length=n:=by simp [JW]
  generalize JW y n 1=R at *;(repeat' ((first|(apply AG<;>intro hc<;>try omega)|apply AW|refine AE (hS) ?_)<;>conv=>whnf))
  rw[Al];refine ER (enc:=eO) none n rfl rfl (by omega) ?_;(conv=>whnf)
  (repeat' (apply AW<;>conv=>whnf))
  refine D0 (λ e=>n-e) (λ(e:Nat)=>e<=n) (λ e=>[(60,.int .i64 e)]) (λ e=>[(57,57,.rw 3 ((DG ((y 0).take e) n).map eO))]) [] [] 0 (by first|exact (by (conv=>whnf);exact ⟨rfl,rfl,rfl⟩)|(rw[List.take_zero,<-I7];exact (by (conv=>whnf);exact ⟨rfl,rfl,rfl⟩))) (by omega) ?_;intro e p2 eh;have Ax:=H6 (l:=(y 0).take e) (m:=n) (by rw[List.length_take];omega);by_cases he2:e<n
  ·obtain ⟨x,hx⟩ : ∃ x,(y 0)[e]? = some x:=⟨_,zE (by omega)⟩
   have m4:=I8 (l:=(y 0).take e) (m:=n) (x:=x) (by rw[List.length_take];omega);rw[List.length_take,Nat.min_eq_left (by omega),<-G7 hx]at m4;have Ow:=yv e he2;rw[show (y 0).getD e 0=x by rw[List.getD_eq_getElem?_getD,hx];rfl]at Ow;have AlW:R[(e:Int).toNat]? = some [x]:=Ow;have zu:[x][(0:Int).toNat]? = some x:=rfl;generalize DG ((y 0).take e) n=F0 at *;(repeat' ((first|(apply AG<;>intro hc<;>try omega)|(apply AU;omega)|(refine BD (by assumption) ?_ rfl ?_;omega)|apply AC)<;>conv=>whnf))
   refine FJ (enc:=eO) (some x) rfl (λ e=>by cases e<;>rfl) (by omega) ?_;(conv=>whnf)
   rw[m4];(repeat' ((first|(apply A0;omega)|fail)<;>conv=>whnf))
   exact BR [] (eh (e+1) (by omega) (by omega))
  have ee:e=n:=by omega
  clear eh;rw[ee,zT (by omega),I6 uf];(repeat' ((first|(apply AG<;>intro hc<;>try omega)|apply AC)<;>conv=>whnf))
  refine ⟨.g9 [.sl false ((y 0).map eQ),.int .i64 0],?_,Or.inr ⟨ic,y 0,rfl,uf,ue,λ i r s h1 h2 => ?_⟩⟩
  ·(conv=>whnf)
   refine GC (enc:=eQ) (λ_=>rfl) rfl uf.symm ?_;(conv=>whnf)
   exact AY rfl (lA (y 0) 0)
  ·exact xu i r [s] h1 (Afm h2)
theorem Xt (N:e8 L) (q q1 q2:Bool) (a:List (List Rat)) (b:List Rat) (n k K0:Nat) (ah:a.length=n) (z8 : ∀ r∈a,r.length=n) (gy:b.length=n) (hn:1<=n/\n<=52) (wz:k<=K0) (nb:1<=K0) (bj:Ms k a) (ij:Bs k b)
  (eo : ∀ r∈DI a (b.map λ x=>[x]),∀ j,Bt K0 (AZ (r.take j))) (xp:Ms K0 (whole (DI a (b.map λ x=>[x]))))
  (hB:6^n*K0<=1000000000000) (hC:DU (6^n*K0) n n<=1000000000000) {B0:Nat} (uq:DU (6^n*K0) n n+6^n*K0<=B0) :
  ∃ v,Ev L 237 [.sl q (LE q1 a),.sl q2 (b.map eQ)] v/\((¬ NS n a/\v = .g9 [.sl false [],.int .i64 11])\/(NS n a /\ ∃ y:List Rat,v = .g9 [.sl false (y.map eQ),.int .i64 0] /\
   y.length=n/\Bs B0 y /\ ∀ (i:Nat) (r:List Rat) (s:Rat),a[i]? = some r->b[i]? = some s->A5 r y=s)):=by
 have ga:k<2199023255552:=by
  have:=JX hB (Nat.zero_le n)
  rw[Nat.pow_zero,Nat.one_mul]at this;omega
 have:=nS N q q1 q2 (wM a) (wR b) n k K0 (PC ah) (PD z8) (by rw[wR,List.length_map];exact gy) hn wz nb (CD.of bj ga) (Fs.of ij ga) (by rw[K4,aF];exact eo) (by rw[K4,aF];exact xp) hB hC uq
 rw[OT,YB,K4,aF]at this;exact this
theorem Xu (N:e8 L) (q q1 q2:Bool) (aw:List (List AQ)) (bw:List AQ) (n k:Nat) (k7:aw.length=n) (j9 : ∀ r∈aw,r.length=n) (bp:bw.length=n) (hn:1<=n/\n<=52) (hk:1<=k) (cq:CD k aw) (kj:Fs k bw)
  (hB:6^n*(3^(n+1)*k)<=1000000000000) (hC:DU (6^n*(3^(n+1)*k)) n n<=1000000000000) {B0:Nat} (uq:DU (6^n*(3^(n+1)*k)) n n+6^n*(3^(n+1)*k)<=B0) :
  ∃ v,Ev L 237 [.sl q (BO q1 aw),.sl q2 (bw.map eW)] v/\((¬ NS n (vM aw)/\v = .g9 [.sl false [],.int .i64 11])\/(NS n (vM aw) /\ ∃ y:List Rat,v = .g9 [.sl false (y.map eQ),.int .i64 0] /\
   y.length=n/\Bs B0 y /\ ∀ (i:Nat) (r:List Rat) (s:Rat),(vM aw)[i]? = some r->(bw.map AQ.v)[i]? = some s->A5 r y=s)):=by
 have qi : ∀ r∈(bw.map AQ.v).map (λ x=>[x]),r.length=1:=λ r hr=>by obtain ⟨x,_,rfl⟩:=List.mem_map.1 hr;rfl
 have Ku:Ms k ((bw.map AQ.v).map λ x=>[x]):=λ r hr=>by
  obtain ⟨x,hx,rfl⟩:=List.mem_map.1 hr;intro z hz;obtain rfl:=List.mem_singleton.1 hz;exact kj.bs z hx
 obtain ⟨wy,yl⟩:=eD (GK j9) qi cq.ms Ku;exact nS N q q1 q2 aw bw n k (3^(n+1)*k) k7 j9 bp hn (SG k (n+1)) (Nat.mul_pos (Nat.pow_pos (by omega)) hk) cq kj (SI hk wy yl) (SH hk wy yl) hB hC uq
theorem Xr (N:e8 L) (q q1 q2:Bool) (a:List (List Rat)) (b:List Rat) (n k:Nat) (ah:a.length=n) (z8 : ∀ r∈a,r.length=n) (gy:b.length=n) (hn:1<=n/\n<=52) (hk:1<=k) (bj:Ms k a) (ij:Bs k b)
  (hB:6^n*(3^(n+1)*k)<=1000000000000) (hC:DU (6^n*(3^(n+1)*k)) n n<=1000000000000) {B0:Nat} (uq:DU (6^n*(3^(n+1)*k)) n n+6^n*(3^(n+1)*k)<=B0) :
  ∃ v,Ev L 237 [.sl q (LE q1 a),.sl q2 (b.map eQ)] v/\((¬ NS n a/\v = .g9 [.sl false [],.int .i64 11])\/(NS n a /\ ∃ y:List Rat,v = .g9 [.sl false (y.map eQ),.int .i64 0] /\
   y.length=n/\Bs B0 y /\ ∀ (i:Nat) (r:List Rat) (s:Rat),a[i]? = some r->b[i]? = some s->A5 r y=s)):=by
 have qi : ∀ r∈b.map (λ x=>[x]),r.length=1:=λ r hr=>by obtain ⟨x,_,rfl⟩:=List.mem_map.1 hr;rfl
 have Ku:Ms k (b.map λ x=>[x]):=λ r hr=>by
  obtain ⟨x,hx,rfl⟩:=List.mem_map.1 hr;intro z hz;obtain rfl:=List.mem_singleton.1 hz;exact ij z hx
 obtain ⟨wy,yl⟩:=eD z8 qi bj Ku;exact Xt N q q1 q2 a b n k (3^(n+1)*k) ah z8 gy hn (SG k (n+1)) (Nat.mul_pos (Nat.pow_pos (by omega)) hk) bj ij (SI hk wy yl) (SH hk wy yl) hB hC uq
theorem nP (N:e8 L) (q q1:Bool) (aw:List (List AQ)) (n k:Nat) (k7:aw.length=n) (j9 : ∀ r∈aw,r.length=n) (hn:1<=n/\n<=52) (hk:1<=k) (cq:CD k aw)
  (hB:6^n*(3^(n+n)*k)<=1000000000000) (hC:DU (6^n*(3^(n+n)*k)) n n<=1000000000000) {B0:Nat} (uq:DU (6^n*(3^(n+n)*k)) n n+6^n*(3^(n+n)*k)<=B0) :
  ∃ v,Ev L 238 [.sl q (BO q1 aw)] v/\((¬ NS n (vM aw)/\v = .g9 [.sl false [],.int .i64 11])\/(NS n (vM aw) /\ ∃ w:List (List Rat),v = .g9 [.sl false (eM w),.int .i64 0] /\
   w.length=n/\(∀ r∈w,r.length=n)/\Ms B0 w/\DE (vM aw) w n=DK n/\DE w (vM aw) n=DK n)):=by
 obtain ⟨a,v8⟩ : ∃ a,vM aw=a:=⟨_,rfl⟩;have ah:a.length=n:=v8 ▸ F9 k7;have z8 : ∀ r∈a,r.length=n:=v8 ▸ GK j9;have hV:=PQ N q q1 aw n n k7 j9 hn hn;have hI:=nZ N n hn;obtain ⟨r0,k9⟩ : ∃ r,aw[0]? = some r:=⟨_,zE (by omega)⟩;have ek:aw[(0:Int).toNat]? = some r0:=k9;have da:=j9 r0 (zM k9);have Lq:(DK n).length=n:=by simp [DK]
 have Gj : ∀ r∈DK n,r.length=n:=(Sq.id n).r;have Gi:Ms k (DK n):=λ r hr=>by
  obtain ⟨i,_,rfl⟩:=List.mem_map.1 hr;intro z hz;obtain ⟨j,_,rfl⟩:=List.mem_map.1 hz;by_cases e:((j:Nat):Int)=(i:Int)
  ·rw[if_pos e];exact (Bt.one 0).le (Nat.zero_le k)
  ·first|(rw[if_neg e];exact Bt.zero _)|(rw[if_neg (Ne.symm e)];exact Bt.zero _)
 have ga:k<2199023255552:=by
  have h1:=JX hB (Nat.zero_le n);rw[Nat.pow_zero,Nat.one_mul]at h1;have h2:k<=3^(n+n)*k:=Nat.le_mul_of_pos_left _ (Nat.pow_pos (by omega));omega
 obtain ⟨wy,yl⟩:=eD z8 Gj (v8 ▸ cq.ms) Gi;obtain ⟨v,hS,df⟩:=oX N q q1 false false aw (wM (DK n)) n n k (3^(n+n)*k) k7 j9 (PC Lq) (PD Gj) hn hn (SG k (n+n)) (Nat.mul_pos (Nat.pow_pos (by omega)) hk) cq (CD.of Gi ga) (by rw[v8,K4];exact SI hk wy yl) (by rw[v8,K4];exact SH hk wy yl) hB hC uq;rw[OT]at hS;rw[K4,v8]at df;rw[v8];refine ⟨v,?_,?_⟩
 ·have u9:A7 v:=by
   rcases df with ⟨_,rfl⟩|⟨_,y,rfl,_⟩
   ·exact H2 [] 11
   ·exact H2 _ 0
  refine Ev.x N.H8 rfl rfl ?_;rcases df with ⟨_,rfl⟩|⟨_,y,rfl,_⟩
  ·(repeat' ((first|(apply AG<;>intro hc<;>try omega)|apply AW|(refine BD (by assumption) ?_ rfl ?_;omega)|apply AC|refine AE (hV) ?_)<;>conv=>whnf))
   rw[k7];(repeat' ((first|refine AE (hI) ?_|refine AE (hS) ?_)<;>conv=>whnf))
   exact AY rfl u9
  ·(repeat' ((first|(apply AG<;>intro hc<;>try omega)|apply AW|(refine BD (by assumption) ?_ rfl ?_;omega)|apply AC|refine AE (hV) ?_)<;>conv=>whnf))
   rw[k7];(repeat' ((first|refine AE (hI) ?_|refine AE (hS) ?_)<;>conv=>whnf))
   exact AY rfl u9
 ·rcases df with ⟨ic,rfl⟩|⟨ic,y,rfl,hy⟩
  ·exact Or.inl ⟨ic,rfl⟩
  ·have zs:DE a (P6 y n) n=DK n:=AeB ah (λ c hc=>(hy c hc).1) λ c i r hc hr=>by
    obtain ⟨s,hs⟩ : ∃ s,(DK n)[i]? = some s:=⟨_,zE (by have:=(zS hr).1;omega)⟩;rw[(hy c hc).2.2 i r s hr hs];have Iv:i<n:=by have:=(zS hr).1;omega
    obtain rfl:FR n i=s:=by simpa [DK,Iv] using hs
    rw[QG,if_pos hc]
   have u9:(P6 y n).length=n:=by simp [P6]
   have Io : ∀ r∈P6 y n,r.length=n:=λ r hr=>by
    obtain ⟨i,_,rfl⟩:=List.mem_map.1 hr;simp
   refine Or.inr ⟨ic,P6 y n,rfl,u9,Io,λ r hr z hz => ?_,zs,Aet ⟨ah,z8⟩ ⟨u9,Io⟩ ic zs⟩;obtain ⟨i,hi,rfl⟩:=List.mem_map.1 hr;obtain ⟨c,hc,rfl⟩:=List.mem_map.1 hz;have:=(hy c (List.mem_range.1 hc)).2.1
   have hl:=(hy c (List.mem_range.1 hc)).1;exact this.at (GH (by rw[hl];exact List.mem_range.1 hi))
theorem Xm (N:e8 L) (q q1:Bool) (a:List (List Rat)) (n k:Nat) (ah:a.length=n) (z8 : ∀ r∈a,r.length=n) (hn:1<=n/\n<=52) (hk:1<=k) (bj:Ms k a)
  (hB:6^n*(3^(n+n)*k)<=1000000000000) (hC:DU (6^n*(3^(n+n)*k)) n n<=1000000000000) {B0:Nat} (uq:DU (6^n*(3^(n+n)*k)) n n+6^n*(3^(n+n)*k)<=B0) :
  ∃ v,Ev L 238 [.sl q (LE q1 a)] v/\((¬ NS n a/\v = .g9 [.sl false [],.int .i64 11])\/(NS n a /\ ∃ w:List (List Rat),v = .g9 [.sl false (eM w),.int .i64 0] /\
   w.length=n/\(∀ r∈w,r.length=n)/\Ms B0 w/\DE a w n=DK n/\DE w a n=DK n)):=by
 have ga:k<2199023255552:=by
  have h1:=JX hB (Nat.zero_le n);rw[Nat.pow_zero,Nat.one_mul]at h1;have h2:k<=3^(n+n)*k:=Nat.le_mul_of_pos_left _ (Nat.pow_pos (by omega));omega
 have:=nP N q q1 (wM a) n k (PC ah) (PD z8) hn hk (CD.of bj ga) hB hC uq
 rw[OT,K4]at this;exact this
def ZF (l:List Rat):Option (Nat × List (List AV)):=if l=[] then none else some (3,l.map eQ)
theorem sN:ZF []=none:=if_pos rfl
theorem ZG {l:List Rat} (h:0<l.length):ZF l=some (3,l.map eQ):=if_neg (λ e=>by rw[e]at h;cases h)
theorem Yl {s t:Rat} (hs:s≠0) (ht:t≠0) (r c:List Rat):A5 (r.map (· * s)) (c.map (· * t))/(s*t)=A5 r c:=by
 rw[Q4,KJ,Q4,KJ];have h1:=Rat.mul_inv_cancel s hs;have h2:=Rat.mul_inv_cancel t ht;rw[Rat.div_def,Rat.inv_mul_rev];grind
theorem Ahv (N:e8 L) (q1 q2 q3 q4:Bool) (b:List (List AQ)) (a:List (List AQ)) (n WW k:Nat) {K:Nat} (ah:a.length=n) (z8 : ∀ r∈a,r.length=WW) (hn:1<=n/\n<=52) (hW:WW<=104) (bj:CD k a) (eo : ∀ r∈vM a,∀ j,Bt K (AZ (r.take j))) (wz:k<=K) (ur:K<=1000000000000) {kk:List It} {Q:Tm->Mem->Prop}
  (ae:AA L kk ([(5,.row 231019 0 3 0 n),(4,.row 231016 0 1 0 n)]++[(1000+33,.sl q1 (BO q2 a)),(1000+31,.bool false),(1000+0,.sl q1 (BO q2 a)),(1000+(0+1),.sl q3 (BO q4 b))]) ([(231016,231016,.mx (A8 3 eQ (whole (vM a)))),(231019,231019,.rw 3 (((vM a).map AZ).map eQ))]++[]) Q) :
  AA L (.lp FK.l1 :: .g8 0::kk) ([(22,.int .i64 0),(21,.int .i64 n),(20,.sl q1 (BO q2 a)),(5,.row 231019 0 3 0 n),(4,.row 231016 0 1 0 n)]++[(1000+33,.sl q1 (BO q2 a)),(1000+31,.bool false),(1000+0,.sl q1 (BO q2 a)),(1000+(0+1),.sl q3 (BO q4 b))]) ([(231016,231016,.mx (List.replicate n none)),(231019,231019,.rw 3 ((List.replicate n none).map eO))]++[]) Q:=by
 have hI:=KM N.toa8 1 (by omega);refine KB (l:=[_,_]) rfl ?_;refine D0 (λ i=>n-i) (λ(i:Nat)=>i<=n) (λ i=>[(22,.int .i64 i)]) (λ i=>[(231016,231016,.mx (mz (whole (vM a)) n i)),(231019,231019,.rw 3 ((DG (((vM a).map AZ).take i) n).map eO))]) [] [] 0 (by first|exact (by (conv=>whnf);exact ⟨rfl,rfl,rfl⟩)|(rw[<-P5 (whole (vM a)),List.take_zero,<-I7];exact (by (conv=>whnf);exact ⟨rfl,rfl,rfl⟩))) (by omega) ?_;intro i p1 ih;have Dh:=P3 (Q:=whole (vM a)) p1;by_cases hi:i<n
 ·obtain ⟨r,hr⟩ : ∃ r,a[i]? = some r:=⟨_,zE (by omega)⟩
  have mn:a[(i:Int).toNat]? = some r:=hr;have cn:=z8 r (zM hr);have fe:=bj r (zM hr);obtain ⟨rv,kv⟩ : ∃ rv,r.map AQ.v=rv:=⟨_,rfl⟩;have rh:(vM a)[i]? = some rv:=by rw[<-kv,vM,List.getElem?_map,hr];rfl
  have qw:rv.length=WW:=by rw[<-kv,List.length_map];exact cn
  have v8 : ∀ (j:Nat) (x:AQ),r[j]? = some x->rv[j]? = some x.v:=λ j x hx=>by rw[<-kv,List.getElem?_map,hx];rfl
  have m4:=P4 (Q:=whole (vM a)) (i:=i) (n:=n) (row:=rv.map (· * AZ rv)) (by rw[whole,List.getElem?_map,rh];rfl) hi;have mo:((vM a).map AZ)[i]? = some (AZ rv):=by rw[List.getElem?_map,rh];rfl
  generalize mz (whole (vM a)) n i=R0 at *;have tf : ∀ j,Bt K (AZ (rv.take j)):=eo rv (zM rh);have gq:=tf WW;rw[zT (by omega)]at gq;(repeat' ((first|(apply AG<;>intro hc<;>try omega)|apply AW|(refine BD (by assumption) ?_ rfl ?_;omega)|apply AC|refine AE (hI) ?_)<;>conv=>whnf))
  try cases hr.symm.trans hv
  refine GW (λ j _=>WW-j) (λ(j:Nat) (s:Rat)=>j<=WW/\s=AZ (rv.take j)) (λ j _=>[(30,.int .i64 j)]) (λ_ s=>[(231008,231008,.bx (eQ s))]) 0 ((1:Int):Rat) ⟨by omega,by rw[List.take_zero];rfl⟩ ?_;intro j s ⟨p2,p3⟩ jh;by_cases hj:j<WW
  ·obtain ⟨x,hx⟩ : ∃ x,r[j]? = some x:=⟨_,zE (by omega)⟩
   have mw:r[(j:Int).toNat]? = some x:=hx;have mr:Bt K s:=by rw[p3];exact tf j
   have sx:=fe x (zM hx);have bx:=sx.1;have ck:=YH N.toa8 mr sx.2 (by omega) (Nat.le_refl _);have fi:=VC N.toa8 true mr (mr.mul bx).2 (by omega) (by omega);have uy:AZ (rv.take (j+1))=s*(((s*x.v).den:Nat):Rat):=by rw[G7 (v8 j x hx),WA,<-p3];rfl
   (repeat' ((first|(apply AG<;>intro hc<;>try omega)|(apply A0;omega)|(refine BD (by assumption) ?_ rfl ?_;omega)|refine HN rfl ?_|apply AC|refine AE (ck) ?_|refine AE (fi) ?_)<;>conv=>whnf))
   exact BL [] (by (conv=>whnf);exact ⟨rfl,rfl,rfl⟩) (jh (j+1) _ (by omega) ⟨by omega,uy.symm⟩)
  have ej:j=WW:=by omega
  clear jh;rw[zT (by omega)]at p3;subst p3;(repeat' ((first|(apply AG<;>intro hc<;>try omega)|apply AW|apply AC)<;>conv=>whnf))
  rw[cn];refine ER (enc:=eO) none WW rfl (by omega) (by omega) ?_;(conv=>whnf)
  (repeat' ((first|(apply AU;omega)|fail)<;>conv=>whnf))
  refine AU (by simp) ?_;refine K5 (i:=i) (by omega) (by omega) ?_;(conv=>whnf)
  (repeat' (apply AW<;>conv=>whnf))
  refine D0 (λ j=>WW-j) (λ(j:Nat)=>j<=WW) (λ j=>[(53,.int .i64 j)]) (λ j=>[(231016,231016,.mx (R0.set i (some (3,(DG ((rv.map (· * AZ rv)).take j) WW).map eO))))]) [] [] 0 (by first|exact (by (conv=>whnf);exact ⟨rfl,rfl,rfl⟩)|(rw[List.take_zero,<-I7];exact (by (conv=>whnf);exact ⟨rfl,rfl,rfl⟩))) (by omega) ?_;intro j r2 jh;have ka:((rv.map (· * AZ rv)).take j).length=j:=by rw[List.length_take,List.length_map];omega
  have Ax:=H6 (l:=(rv.map (· * AZ rv)).take j) (m:=WW) (by omega);by_cases hj:j<WW
  ·obtain ⟨x,hx⟩ : ∃ x,r[j]? = some x:=⟨_,zE (by omega)⟩
   have mw:r[(j:Int).toNat]? = some x:=hx;have sx:=fe x (zM hx);have ck:=YG N.toa8 sx.2 gq (Nat.le_refl _) (by omega);have hs:=I8 (l:=(rv.map (· * AZ rv)).take j) (m:=WW) (x:=x.v*AZ rv) (by omega);rw[ka,<-G7 (show (rv.map (· * AZ rv))[j]? = some (x.v*AZ rv) by rw[List.getElem?_map,v8 j x hx];rfl)]at hs;generalize DG ((rv.map (· * AZ rv)).take j) WW=W0 at *;(repeat' ((first|(apply AG<;>intro hc<;>try omega)|(apply AU;omega)|(refine BD (by assumption) ?_ rfl ?_;omega)|apply AC)<;>conv=>whnf))
   refine I2 (by omega) (by omega) ?_;(conv=>whnf)
   (repeat' (refine AE (ck) ?_<;>conv=>whnf))
   refine AU (by rw[List.length_map];omega) ?_;(conv=>whnf)
   skip
   refine GM (by omega) (by omega) ?_;(conv=>whnf)
   refine FJ (enc:=eO) (some (x.v*AZ rv)) rfl (λ e=>by cases e<;>rfl) (by omega) ?_;(conv=>whnf)
   rw[hs];refine KF (by omega) (by rw[List.length_map,List.length_map,<-hs,List.length_set]) ?_;(conv=>whnf)
   (repeat' ((first|(apply A0;omega)|fail)<;>conv=>whnf))
   exact BR [] (jh (j+1) (by omega) (by omega))
  have ej:j=WW:=by omega
  clear jh;rw[zT (by rw[List.length_map];omega),I6 (by rw[List.length_map];exact qw),m4];have mb:(((vM a).map AZ).take i).length=i:=by rw[List.length_take,List.length_map,vM,List.length_map];omega
  have Ir:=H6 (l:=((vM a).map AZ).take i) (m:=n) (by omega);have jc:=I8 (l:=((vM a).map AZ).take i) (m:=n) (x:=AZ rv) (by omega);rw[mb,<-G7 mo]at jc;generalize DG (((vM a).map AZ).take i) n=W1 at *;(repeat' ((first|(apply AG<;>intro hc<;>try omega)|(apply AU;omega)|apply AC)<;>conv=>whnf))
  refine FJ (enc:=eO) (some (AZ rv)) rfl (λ e=>by cases e<;>rfl) (by omega) ?_;(conv=>whnf)
  rw[jc];(repeat' ((first|(apply A0;omega)|fail)<;>conv=>whnf))
  exact BR [] (ih (i+1) (by omega) (by omega))
 have ei:i=n:=by omega
 clear ih;rw[ei,P2 (by simp [whole,vM,ah]),zT (by rw[List.length_map,vM,List.length_map];omega),I6 (by rw[List.length_map,vM,List.length_map];exact ah)];(repeat' ((first|(apply AG<;>intro hc<;>try omega)|apply AC)<;>conv=>whnf))
 exact BL [] (by (conv=>whnf);exact ⟨rfl,rfl,rfl⟩) ae
theorem Ahw (N:e8 L) (q1 q2 q3 q4:Bool) (a0:List (List Rat)) (b:List (List AQ)) (ss:List Rat) (p:Nat) (a:List (List Rat)) (n WW k:Nat) {K:Nat} (ah:a.length=n) (z8 : ∀ r∈a,r.length=WW) (hn:1<=n/\n<=52) (hW:WW<=104) (bj:Ms k a) (eo : ∀ r∈a,∀ j,Bt K (AZ (r.take j))) (wz:k<=K) (ur:K<=1000000000000) {kk:List It} {Q:Tm->Mem->Prop}
  (ae:AA L kk ([(5,.row 1231019 0 3 0 n),(4,.row 1231016 0 1 0 n)]++[(1000+39,.sl false (eM a)),(1000+38,.sl q3 (BO q4 b)),(1000+7,.row 231019 0 3 0 p),(1000+6,.row 231016 0 1 0 p),(1000+(0+1),.sl q3 (BO q4 b))]) ([(1231016,231016,.mx (A8 3 eQ (whole a))),(1231019,231019,.rw 3 ((a.map AZ).map eQ))]++[(231016,231016,.mx (A8 3 eQ a0)),(231019,231019,.rw 3 (ss.map eQ))]) Q) :
  AA L (.lp FK.l1 :: .g8 0::kk) ([(22,.int .i64 0),(21,.int .i64 n),(20,.sl false (eM a)),(5,.row 1231019 0 3 0 n),(4,.row 1231016 0 1 0 n)]++[(1000+39,.sl false (eM a)),(1000+38,.sl q3 (BO q4 b)),(1000+7,.row 231019 0 3 0 p),(1000+6,.row 231016 0 1 0 p),(1000+(0+1),.sl q3 (BO q4 b))]) ([(1231016,231016,.mx (List.replicate n none)),(1231019,231019,.rw 3 ((List.replicate n none).map eO))]++[(231016,231016,.mx (A8 3 eQ a0)),(231019,231019,.rw 3 (ss.map eQ))]) Q:=by
 have hI:=KM N.toa8 1 (by omega);refine KB (l:=[_,_]) rfl ?_;refine D0 (λ i=>n-i) (λ(i:Nat)=>i<=n) (λ i=>[(22,.int .i64 i)]) (λ i=>[(1231016,231016,.mx (mz (whole a) n i)),(1231019,231019,.rw 3 ((DG ((a.map AZ).take i) n).map eO))]) [] [] 0 (by first|exact (by (conv=>whnf);exact ⟨rfl,rfl,rfl⟩)|(rw[<-P5 (whole a),List.take_zero,<-I7];exact (by (conv=>whnf);exact ⟨rfl,rfl,rfl⟩))) (by omega) ?_;intro i p1 ih;have Dh:=P3 (Q:=whole a) p1;by_cases hi:i<n
 ·obtain ⟨r,hr⟩ : ∃ r,a[i]? = some r:=⟨_,zE (by omega)⟩
  have mn:a[(i:Int).toNat]? = some r:=hr;have cn:=z8 r (zM hr);have fe:=bj.at hr;have m4:=P4 (Q:=whole a) (i:=i) (n:=n) (row:=r.map (· * AZ r)) (by simp [whole,hr]) hi;have mo:(a.map AZ)[i]? = some (AZ r):=by simp [hr]
  generalize mz (whole a) n i=R0 at *;have tf : ∀ j,Bt K (AZ (r.take j)):=eo r (zM hr);have gq:=tf WW;rw[zT (by omega)]at gq;(repeat' ((first|(apply AG<;>intro hc<;>try omega)|apply AW|(refine BD (by assumption) ?_ rfl ?_;omega)|apply AC|refine AE (hI) ?_)<;>conv=>whnf))
  try cases hr.symm.trans hv
  refine GW (λ j _=>WW-j) (λ(j:Nat) (s:Rat)=>j<=WW/\s=AZ (r.take j)) (λ j _=>[(30,.int .i64 j)]) (λ_ s=>[(231008,231008,.bx (eQ s))]) 0 ((1:Int):Rat) ⟨by omega,by rw[List.take_zero];rfl⟩ ?_;intro j s ⟨p2,p3⟩ jh;by_cases hj:j<WW
  ·obtain ⟨x,hx⟩ : ∃ x,r[j]? = some x:=⟨_,zE (by omega)⟩
   have mw:r[(j:Int).toNat]? = some x:=hx;have mr:Bt K s:=by rw[p3];exact tf j
   have bx:=fe.at hx;have ck:=KL N.toa8 mr bx (by omega) (by omega);have fi:=VC N.toa8 true mr (mr.mul bx).2 (by omega) (by omega);have uy:AZ (r.take (j+1))=s*(((s*x).den:Nat):Rat):=by rw[G7 hx,WA,<-p3];rfl
   (repeat' ((first|(apply AG<;>intro hc<;>try omega)|(apply A0;omega)|(refine BD (by assumption) ?_ rfl ?_;omega)|refine HN rfl ?_|apply AC|refine AE (ck) ?_|refine AE (fi) ?_)<;>conv=>whnf))
   exact BL [] (by (conv=>whnf);exact ⟨rfl,rfl,rfl⟩) (jh (j+1) _ (by omega) ⟨by omega,uy.symm⟩)
  have ej:j=WW:=by omega
  clear jh;rw[zT (by omega)]at p3;subst p3;(repeat' ((first|(apply AG<;>intro hc<;>try omega)|apply AW|apply AC)<;>conv=>whnf))
  rw[cn];refine ER (enc:=eO) none WW rfl (by omega) (by omega) ?_;(conv=>whnf)
  (repeat' ((first|(apply AU;omega)|fail)<;>conv=>whnf))
  refine AU (by simp) ?_;refine K5 (i:=i) (by omega) (by omega) ?_;(conv=>whnf)
  (repeat' (apply AW<;>conv=>whnf))
  refine D0 (λ j=>WW-j) (λ(j:Nat)=>j<=WW) (λ j=>[(53,.int .i64 j)]) (λ j=>[(1231016,231016,.mx (R0.set i (some (3,(DG ((r.map (· * AZ r)).take j) WW).map eO))))]) [] [] 0 (by first|exact (by (conv=>whnf);exact ⟨rfl,rfl,rfl⟩)|(rw[List.take_zero,<-I7];exact (by (conv=>whnf);exact ⟨rfl,rfl,rfl⟩))) (by omega) ?_;intro j r2 jh;have ka:((r.map (· * AZ r)).take j).length=j:=by rw[List.length_take,List.length_map];omega
  have Ax:=H6 (l:=(r.map (· * AZ r)).take j) (m:=WW) (by omega);by_cases hj:j<WW
  ·obtain ⟨x,hx⟩ : ∃ x,r[j]? = some x:=⟨_,zE (by omega)⟩
   have mw:r[(j:Int).toNat]? = some x:=hx;have bx:=fe.at hx;have ck:=KL N.toa8 bx gq (by omega) (by omega);have hs:=I8 (l:=(r.map (· * AZ r)).take j) (m:=WW) (x:=x*AZ r) (by omega);rw[ka,<-G7 (show (r.map (· * AZ r))[j]? = some (x*AZ r) by rw[List.getElem?_map,hx];rfl)]at hs;generalize DG ((r.map (· * AZ r)).take j) WW=W0 at *;(repeat' ((first|(apply AG<;>intro hc<;>try omega)|(apply AU;omega)|(refine BD (by assumption) ?_ rfl ?_;omega)|apply AC)<;>conv=>whnf))
   refine I2 (by omega) (by omega) ?_;(conv=>whnf)
   (repeat' (refine AE (ck) ?_<;>conv=>whnf))
   refine AU (by rw[List.length_map];omega) ?_;(conv=>whnf)
   skip
   refine GM (by omega) (by omega) ?_;(conv=>whnf)
   refine FJ (enc:=eO) (some (x*AZ r)) rfl (λ e=>by cases e<;>rfl) (by omega) ?_;(conv=>whnf)
   rw[hs];refine KF (by omega) (by rw[List.length_map,List.length_map,<-hs,List.length_set]) ?_;(conv=>whnf)
   (repeat' ((first|(apply A0;omega)|fail)<;>conv=>whnf))
   exact BR [] (jh (j+1) (by omega) (by omega))
  have ej:j=WW:=by omega
  clear jh;rw[zT (by rw[List.length_map];omega),I6 (by rw[List.length_map];exact cn),m4];have mb:((a.map AZ).take i).length=i:=by rw[List.length_take,List.length_map];omega
  have Ir:=H6 (l:=(a.map AZ).take i) (m:=n) (by omega);have jc:=I8 (l:=(a.map AZ).take i) (m:=n) (x:=AZ r) (by omega);rw[mb,<-G7 mo]at jc;generalize DG ((a.map AZ).take i) n=W1 at *;(repeat' ((first|(apply AG<;>intro hc<;>try omega)|(apply AU;omega)|apply AC)<;>conv=>whnf))
  refine FJ (enc:=eO) (some (AZ r)) rfl (λ e=>by cases e<;>rfl) (by omega) ?_;(conv=>whnf)
  rw[jc];(repeat' ((first|(apply A0;omega)|fail)<;>conv=>whnf))
  exact BR [] (ih (i+1) (by omega) (by omega))
 have ei:i=n:=by omega
 clear ih;rw[ei,P2 (by simp [whole,ah]),zT (by rw[List.length_map];omega),I6 (by rw[List.length_map];exact ah)];(repeat' ((first|(apply AG<;>intro hc<;>try omega)|apply AC)<;>conv=>whnf))
 exact BL [] (by (conv=>whnf);exact ⟨rfl,rfl,rfl⟩) ae
theorem Wx (N:bh L) (q1 q2 q3 q4:Bool) (aw bw:List (List AQ)) (p n w k l:Nat) (k7:aw.length=p) (j9 : ∀ r∈aw,r.length=n) (bp:bw.length=n) (dj : ∀ r∈bw,r.length=w) (hp:1<=p/\p<=52) (hn:1<=n/\n<=52) (hw:1<=w/\w<=52) (hk:1<=k) (hl:1<=l) (cq:CD k aw) (kj:CD l bw) (hB:n*(3^n*k+3^n*l+1)+3^n*k+3^n*l<=1000000000000) :
  Ev L 248 [.sl q1 (BO q2 aw),.sl q3 (BO q4 bw)] (.g9 [.sl false (eM (DE (vM aw) (vM bw) w)),.int .i64 0]):=by
 obtain ⟨a,v8⟩ : ∃ a,vM aw=a:=⟨_,rfl⟩;obtain ⟨b,gv⟩ : ∃ b,vM bw=b:=⟨_,rfl⟩;rw[v8,gv];have ah:a.length=p:=v8 ▸ F9 k7;have z8 : ∀ r∈a,r.length=n:=v8 ▸ GK j9;have bj:Ms k a:=v8 ▸ cq.ms;have gy:b.length=n:=gv ▸ F9 bp;have mj : ∀ r∈b,r.length=w:=gv ▸ GK dj;have ij:Ms l b:=gv ▸ kj.ms;have Ij:=PQ N.toe8 q1 q2 aw p n k7 j9 hp hn;have Ik:=PQ N.toe8 q3 q4 bw n w bp dj hn hw;have hO:=KM N.toa8 0 (by omega);have hT:=oB N q3 q4 bw n w l bp dj hn hw kj;rw[gv]at hT;obtain ⟨r0,k9⟩ : ∃ r,aw[0]? = some r:=⟨_,zE (by omega)⟩;have ek:aw[(0:Int).toNat]? = some r0:=k9;have da:=j9 r0 (zM k9);refine Ev.x N.HF rfl rfl ?_;(repeat' ((first|(apply AG<;>intro hc<;>try omega)|apply AW|(refine BD (by assumption) ?_ rfl ?_;omega)|apply AC|refine AE (Ij) ?_|refine AE (Ik) ?_)<;>conv=>whnf))
 refine E2 1000 N.FK rfl rfl ?_;(repeat' ((first|apply AW|apply AC)<;>conv=>whnf))
 unfold C6;refine ⟨⟨by omega,by omega,by simp only[D5];omega,by omega⟩,?_⟩;rw[Int.toNat_natCast];(conv=>whnf)
 (repeat' (apply AW<;>conv=>whnf))
 rw[k7];refine ER (enc:=eO) none p rfl (by omega) (by omega) ?_;(conv=>whnf)
 (repeat' (apply AW<;>conv=>whnf))
 rw[k7];refine BL [] (by (conv=>whnf);exact ⟨rfl,rfl,rfl⟩) (Ahv N.toe8 q1 q2 q3 q4 bw aw p n k k7 j9 hp (by omega) cq (v8.symm ▸ SI hk z8 bj) (SG k n) (by omega) ?_);(repeat' (apply AC<;>conv=>whnf))
 refine ⟨rfl,_,rfl,?_⟩;(conv=>whnf)
 rw[v8];(repeat' (refine AE (hT) ?_<;>conv=>whnf))
 have ct:=aC b w;have Ee:=vY (w:=w) gy;have rf:Ms l (FM b w):=λ r hr=>by
  obtain ⟨j,hj,rfl⟩:=List.mem_map.1 hr;intro x hx;obtain ⟨s,hs,rfl⟩:=List.mem_map.1 hx;obtain ⟨e,ql⟩:=List.getElem?_of_mem hs;exact (ij.at ql).at (GH (by rw[mj s hs];exact List.mem_range.1 hj))
 have Ank : ∀ j,j<w->(FM b w)[j]? = some (DF b j):=λ j hj=>iP hj
 have hQ:DE a b w=a.map λ r=>(FM b w).map λ c=>A5 r c:=by
  refine List.map_congr_left λ r _ => ?_
  rw[E0,FM,List.map_map];rfl
 rw[hQ];have u9 : ∀ j,(DF b j).length=n:=λ j=>by rw[UY];exact gy
 generalize FM b w=T at *;clear hQ hT Ij Ik ij mj gy bp dj kj gv;refine E2 1000 N.FK rfl rfl ?_;(repeat' ((first|apply AW|apply AC)<;>conv=>whnf))
 unfold C6;refine ⟨⟨by omega,by omega,by simp only[D5];omega,by omega⟩,?_⟩;rw[Int.toNat_natCast];(conv=>whnf)
 (repeat' (apply AW<;>conv=>whnf))
 rw[ct];refine ER (enc:=eO) none w rfl (by omega) (by omega) ?_;(conv=>whnf)
 (repeat' (apply AW<;>conv=>whnf))
 rw[ct];refine BL [] (by (conv=>whnf);exact ⟨rfl,rfl,rfl⟩) (Ahw N.toe8 q1 q2 q3 q4 (whole a) bw (a.map AZ) p T w n l ct Ee hw (by omega) rf (SI hl Ee rf) (SG l n) (by omega) ?_);(repeat' (apply AC<;>conv=>whnf))
 refine ⟨rfl,_,rfl,?_⟩;(conv=>whnf)
 skip
 have hbA:=SH hk z8 bj;have hbT:=SH hl Ee rf;have hwA:=T6 z8;have hwT:=T6 Ee;have zt:(whole a).length=p:=by rw[whole,List.length_map];exact ah
 have Anv:(whole T).length=w:=by rw[whole,List.length_map];exact ct
 have hkA : ∀ r∈a,Bt (3^n*k) (AZ r):=λ r hr=>(V8 hk (bj r hr)).le (by rw[z8 r hr];omega)
 have hkT : ∀ r∈T,Bt (3^n*l) (AZ r):=λ r hr=>(V8 hl (rf r hr)).le (by rw[Ee r hr];omega)
 have Ko : ∀ (i:Nat) (r:List Rat),a[i]? = some r->(whole a)[i]? = some (r.map (· * AZ r)):=λ i r hr=>by rw[whole,List.getElem?_map,hr];rfl
 have Kq : ∀ (i:Nat) (r:List Rat),T[i]? = some r->(whole T)[i]? = some (r.map (· * AZ r)):=λ i r hr=>by rw[whole,List.getElem?_map,hr];rfl
 have Mv : ∀ (i:Nat) (r:List Rat),a[i]? = some r->(a.map AZ)[i]? = some (AZ r):=λ i r hr=>by rw[List.getElem?_map,hr];rfl
 have Mw : ∀ (i:Nat) (r:List Rat),T[i]? = some r->(T.map AZ)[i]? = some (AZ r):=λ i r hr=>by rw[List.getElem?_map,hr];rfl
 have Kp : ∀ (i:Nat) (r:List Rat),a[i]? = some r->(a.map λ r=>T.map λ c=>A5 r c)[i]? = some (T.map λ c=>A5 r c):=λ i r hr=>by rw[List.getElem?_map,hr];rfl
 have Al:(a.map λ r=>T.map λ c=>A5 r c).length=p:=by rw[List.length_map];exact ah
 have Anb:(a.map AZ).length=p:=by rw[List.length_map];exact ah
 have Ang:(T.map AZ).length=w:=by rw[List.length_map];exact ct
 generalize whole a=A at *;generalize whole T=B at *;generalize a.map AZ=sa at *;generalize T.map AZ=st at *;generalize (a.map λ r=>T.map λ c=>A5 r c)=R at *;generalize 3^n*k=KA at *;generalize 3^n*l=KT at *;unfold C6;refine ⟨⟨by omega,by omega,by simp only[D5];omega,by omega⟩,?_⟩;rw[Int.toNat_natCast];(conv=>whnf)
 skip
 refine D0 (λ i=>p-i) (λ(i:Nat)=>i<=p) (λ i=>[(48,.int .i64 i)]) (λ i=>[(45,45,.mx (mz R p i))]) [] [] 0 (by first|exact (by (conv=>whnf);exact ⟨rfl,rfl,rfl⟩)|(rw[<-P5 R];exact (by (conv=>whnf);exact ⟨rfl,rfl,rfl⟩))) (by omega) ?_;intro i p1 ih;have Dh:=P3 (Q:=R) p1;by_cases hi:i<p
 ·obtain ⟨rr,k9⟩ : ∃ r,a[i]? = some r:=⟨_,zE (by omega)⟩
  have cn:=z8 rr (zM k9);have zm:=Ko i rr k9;have fe:=hbA.at zm;have Ed:=hkA rr (zM k9);have hsa:=Mv i rr k9;have m4:=P4 (Kp i rr k9) hi;have jz:=rX Al hi;have n9:=V9 rr;have Lc:=λ(c:List Rat) (s:Rat) (hs:s≠0)=>Yl n9 hs rr c
  have kn:(rr.map (· * AZ rr)).length=n:=by rw[List.length_map];exact cn
  have Jz : ∀ (j:Nat) (c:List Rat),T[j]? = some c->(T.map λ c=>A5 rr c)[j]? = some (A5 rr c):=λ j c hc=>by rw[List.getElem?_map,hc];rfl
  have hMl:(T.map λ c=>A5 rr c).length=w:=by rw[List.length_map];exact ct
  generalize mz R p i=R0 at *;generalize (T.map λ c=>A5 rr c)=M at *;generalize rr.map (· * AZ rr)=u at *;generalize AZ rr=su at *;(repeat' ((first|(apply AG<;>intro hc<;>try omega)|(apply AU;omega)|(refine EK ?_ (λ r hr => ?_);omega)|apply AC)<;>conv=>whnf))
  cases zm.symm.trans hr;rw[show 0+((i:Nat):Int).toNat=i by omega,show (List.map eQ u).length=n by rw[List.length_map];exact kn];refine D0 (λ j=>w-j) (λ(j:Nat)=>j<=w) (λ j=>[(55,.int .i64 j)]) (λ j=>[(45,45,.mx (R0.set i (ZF (M.take j))))]) [] [] 0 (by first|exact (by (conv=>whnf);exact ⟨rfl,rfl,rfl⟩)|(rw[List.take_zero,sN,R3 jz];exact (by (conv=>whnf);exact ⟨rfl,rfl,rfl⟩))) (by omega) ?_;intro j p2 jh;have Bf:(M.take j).length=j:=by rw[List.length_take];omega
  by_cases hj:j<w
  ·obtain ⟨c,gi⟩ : ∃ c,T[j]? = some c:=⟨_,zE (by omega)⟩
   have Fy:=Ee c (zM gi);have Kv:=Kq j c gi;have lk:=hbT.at Kv;have gk:=hkT c (zM gi);have Nb:=Mw j c gi;have Gt:=V9 c;have hdc:=Lc c (AZ c) Gt;have yn:=K2 (Jz j c gi);have mc:(c.map (· * AZ c)).length=n:=by rw[List.length_map];exact Fy
   generalize c.map (· * AZ c)=v0 at *;generalize AZ c=sv at *;generalize A5 rr c=dd at *;have Ni:(M.take (j+1)).length=j+1:=by rw[List.length_take];omega
   generalize yg:M.take j=M0 at *;(repeat' ((first|(apply AG<;>intro hc<;>try omega)|(apply AU;omega)|(refine EK ?_ (λ r hr => ?_);omega)|apply AC|refine AE (hO) ?_)<;>conv=>whnf))
   cases Kv.symm.trans hr;rw[show 0+((j:Nat):Int).toNat=j by omega,show (List.map eQ v0).length=n by rw[List.length_map];exact mc];have qg:=I9 (z:=3) zm;have Kd:=I9 (z:=3) Kv;have km:KA+KT+1<=n*(KA+KT+1):=Nat.le_mul_of_pos_left _ (by omega);refine D0 (λ t=>n-t) (λ(t:Nat)=>t<=n) (λ t=>[(63,.int .i64 t)]) (λ t=>[(15,15,.bx (eQ (A5 (u.take t) (v0.take t))))]) [] [] 0 (by first|exact (by (conv=>whnf);exact ⟨rfl,rfl,rfl⟩)|(rw[List.take_zero,List.take_zero];exact (by (conv=>whnf);exact ⟨rfl,rfl,rfl⟩))) (by omega) ?_;intro t p3 th;by_cases ht:t<n
   ·obtain ⟨x,hx⟩ : ∃ x,u[t]? = some x:=⟨_,zE (by omega)⟩
    obtain ⟨y,hy⟩ : ∃ x,v0[t]? = some x:=⟨_,zE (by omega)⟩;have Ga:=(fe.take t).dot (lk.take t);rw[List.length_take,Nat.min_eq_left (by omega)]at Ga;have htn:t*(KA+KT+1)<=n*(KA+KT+1):=zR _ (by omega);have wj:=KL N.toa8 (fe.at hx) (lk.at hy) (by omega) (by omega);have Bw:=Xx N.toa8 Ga ((fe.at hx).mul (lk.at hy)) (by omega) (by omega);rw[<-cL hx hy]at Bw;generalize A5 (u.take t) (v0.take t)=d0 at *;generalize pd:A5 (u.take (t+1)) (v0.take (t+1))=d1 at Bw;generalize x*y=xy at *;(repeat' ((first|(apply AG<;>intro hc<;>try omega)|(apply AU;omega)|apply AC)<;>conv=>whnf))
    refine KE qg ?_;(conv=>whnf)
    (repeat' ((first|(apply AU;omega)|(refine DQ ?_ (λ_=>rfl) (λ v hv => ?_);omega))<;>conv=>whnf))
    cases hx.symm.trans hv;skip
    refine KE Kd ?_;(conv=>whnf)
    (repeat' ((first|(refine DQ ?_ (λ_=>rfl) (λ v hv => ?_);omega)|fail)<;>conv=>whnf))
    cases hy.symm.trans hv;(repeat' ((first|(apply A0;omega)|refine AE (wj) ?_|refine AE (Bw) ?_)<;>conv=>whnf))
    subst pd;exact BR [] (th (t+1) (by omega) (by omega))
   ·have et:t=n:=by omega
    clear th;have Dw:=(fe.dot lk);rw[kn]at Dw;rw[et,U5 kn];have Lx:su*sv≠0:=λ e=>by
     rcases Rat.mul_eq_zero.1 e with e|e
     ·exact n9 e
     ·exact Gt e
    have wj:=KL N.toa8 Ed gk (by omega) (by omega);have Ai:=Q9 N.toa8 Dw (Ed.mul gk) (by omega) (by omega) Lx;rw[hdc]at Ai;(repeat' ((first|(apply AG<;>intro hc<;>try omega)|(apply AU;omega)|(refine DQ ?_ (λ_=>rfl) (λ v hv => ?_);omega)|apply AC)<;>conv=>whnf))
    rename_i vA hvA;cases hsa.symm.trans hvA;cases Nb.symm.trans hv;(repeat' ((first|(apply AU;omega)|refine AE (wj) ?_|refine AE (Ai) ?_)<;>conv=>whnf))
    by_cases Iw:j=0
    ·subst Iw
     rw[List.take_zero]at yg;subst yg;rw[sN,R3 jz];refine jQ (r:=none) (by rw[Nat.zero_add,Int.toNat_natCast];exact jz) ?_;(conv=>whnf)
     (repeat' (apply FI<;>conv=>whnf))
     refine jB (enc:=eQ) dd rfl rfl (by omega) ?_;(conv=>whnf)
     (repeat' ((first|(apply AU;omega)|fail)<;>conv=>whnf))
     refine AU rfl ?_;refine K5 (i:=i) (by omega) (by omega) ?_;(conv=>whnf)
     (repeat' ((first|(apply A0;omega)|fail)<;>conv=>whnf))
     have hq:(some (3,[dd].map eQ):Option (Nat × List (List AV)))=ZF (M.take (0+1)):=by rw[yn];exact (ZG (by simp)).symm
     rw[hq];exact BR [] (jh (0+1) (by omega) (by omega))
    ·rw[ZG (by omega)]
     refine I2 (by omega) (by omega) ?_;(conv=>whnf)
     (repeat' (apply FI<;>conv=>whnf))
     refine GM (by omega) (by omega) ?_;(conv=>whnf)
     refine FS (enc:=eQ) dd rfl (by rw[List.length_map]) rfl (by omega) (by omega) ?_;intro s' v;rw[<-yn,Ni];(conv=>whnf)
     (repeat' ((first|(apply AU;omega)|fail)<;>conv=>whnf))
     refine AU ⟨rfl,by rw[List.length_map];omega⟩ ?_;refine K5 (i:=i) (by omega) (by rw[List.length_set,List.length_set];omega) ?_;rw[show 0+((i:Int)).toNat=i by omega,List.set_set,List.set_set,<-ZG (by omega)];(conv=>whnf)
     (repeat' ((first|(apply A0;omega)|fail)<;>conv=>whnf))
     exact BR [] (jh (j+1) (by omega) (by omega))
  ·have ej:j=w:=by omega
   clear jh;rw[ej,zT (by omega),ZG (by omega),m4];(repeat' ((first|(apply AG<;>intro hc<;>try omega)|(apply A0;omega)|apply AC)<;>conv=>whnf))
   exact BR [] (ih (i+1) (by omega) (by omega))
 ·have ei:i=p:=by omega
  clear ih;rw[ei,P2 Al];(repeat' ((first|(apply AG<;>intro hc<;>try omega)|apply AC)<;>conv=>whnf))
  refine KH (λ_=>rfl) rfl (by omega) ?_;(conv=>whnf)
  exact AY rfl (H2 R 0)
def D2 (m:List (List Rat)):Rat:=CX m 0 0*CX m 1 1-CX m 0 1*CX m 1 0
theorem WP {α:Type} {l:List α} (h:l.length=2) : ∃ a b,l=[a,b]:=by
 match l,h with
 | [a,b],_=>exact ⟨a,b,rfl⟩
theorem YV {m:List (List Rat)} (h:m.length=2) (hw : ∀ r∈m,r.length=2) : ∃ p q r s,m=[[p,q],[r,s]]:=by
 obtain ⟨a,b,rfl⟩:=WP h;obtain ⟨p,q,rfl⟩:=WP (hw a (by simp));obtain ⟨r,s,rfl⟩:=WP (hw b (by simp));exact ⟨p,q,r,s,rfl⟩
theorem RJ {α:Type} {a b x:α} {i:Nat} (h:[a,b][i]? = some x):(i=0/\x=a)\/(i=1/\x=b):=by
 match i,h with
 | 0,h=>exact Or.inl ⟨rfl,(Option.some.inj h).symm⟩
 | 1,h=>exact Or.inr ⟨rfl,(Option.some.inj h).symm⟩
 | i+2,h=>simp at h
theorem Wh:EQ 2 2 1 D2:=by
 refine ⟨λ m i k a b hl hw hi hk hn => ?_,λ m i k r t p f l hl hw hi hk hn h0 => ?_,λ m i r s hl hw hi => ?_,λ m hl hw ht => ?_⟩
 ·obtain ⟨p,q,r,s,rfl⟩:=YV hl hw
  rcases RJ hi with ⟨rfl,rfl⟩|⟨rfl,rfl⟩<;>rcases RJ hk with ⟨rfl,rfl⟩|⟨rfl,rfl⟩<;>first|exact absurd rfl hn|(simp [D2,CX];grind)
 ·obtain ⟨p',q,r',s,rfl⟩:=YV hl hw
  rcases RJ hi with ⟨rfl,rfl⟩|⟨rfl,rfl⟩<;>rcases RJ hk with ⟨rfl,rfl⟩|⟨rfl,rfl⟩<;>first|exact absurd rfl hn|(simp [D2,CX,comb,Rat.div_def];grind)
 ·obtain ⟨p,q,r',s',rfl⟩:=YV hl hw
  rcases RJ hi with ⟨rfl,rfl⟩|⟨rfl,rfl⟩<;>(simp [D2,CX];grind)
 ·obtain ⟨p,q,r,s,rfl⟩:=YV hl hw
  have h1:=(ht 1 (by omega)).2 0 (by omega);simp only[CX,List.getD_cons_succ,List.getD_cons_zero]at h1;subst h1;simp [D2,CX,FE,List.range_succ];grind
theorem bJ {z:Int} (h:z.natAbs<=8):Bt 3 (z:Rat):=Bt.ofInt h
theorem fR (m:List (List Int)) (h : ∀ r∈m,∀ z∈r,z.natAbs<=8):Ms 3 (m.map λ r=>r.map λ(z:Int)=>(z:Rat)):=λ r hr x hx=>by
 obtain ⟨r',mn,rfl⟩:=List.mem_map.1 hr;obtain ⟨z,hz,rfl⟩:=List.mem_map.1 hx;exact bJ (h r' mn z hz)
def mA:List (List Rat):=[[((1:Int):Rat),((2:Int):Rat)],[((3:Int):Rat),((4:Int):Rat)]]
def mB:List (List Rat):=[[((2:Int):Rat),((0:Int):Rat)],[((0:Int):Rat),((4:Int):Rat)]]
def mC:List (List Rat):=[[((1:Int):Rat),((1:Int):Rat)],[((1:Int):Rat),((1:Int):Rat)]]
theorem Wk (N:e8 L) (q q':Bool):Ev L 236 [.sl q (LE q' mA)] (.g9 [.agg (eQ ((-2:Int):Rat)),.int .i64 0]):=by
 obtain ⟨d,h1,_,_,h2⟩:=Xl N q q' mA 2 3 rfl (by decide) (by omega) (by omega) (fR [[1,2],[3,4]] (by decide)) (by decide);have h3:=h2 1 D2 Wh;rw[Rat.one_mul,show D2 mA=((-2:Int):Rat) by simp [D2,mA,CX];grind]at h3;rwa [<-h3]at h1
theorem Afd:NS 2 mB:=by
 intro X hX hk j;obtain ⟨x,y,rfl⟩:=WP hX;have h1:=hk [((2:Int):Rat),((0:Int):Rat)] (by simp [mB]);have h2:=hk [((0:Int):Rat),((4:Int):Rat)] (by simp [mB]);simp only[A5]at h1 h2;match j with
 | 0=>simp;grind
 | 1=>simp;grind
 | j+2=>simp
theorem Afe : ¬ NS 2 mC:=by
 intro h;have:=h [1,-1] rfl (λ r hr=>by
  simp only[mC,List.mem_cons,List.not_mem_nil,or_false,or_self]at hr;subst hr;simp only[A5];grind) 0
 exact absurd this (by decide)
theorem Ahd (N:e8 L) (q q1 q2:Bool):Ev L 237 [.sl q (LE q1 mB),.sl q2 ([((1:Int):Rat),((1:Int):Rat)].map eQ)] (.g9 [.sl false ([Rat.divInt 1 2,Rat.divInt 1 4].map eQ),.int .i64 0]):=by
 obtain ⟨v,h1,h2⟩:=Xr N q q1 q2 mB [((1:Int):Rat),((1:Int):Rat)] 2 3 rfl (by decide) rfl (by omega) (by omega) (fR [[2,0],[0,4]] (by decide)) (λ x hx=>by
  simp only[List.mem_cons,List.not_mem_nil,or_false,or_self]at hx;subst hx;exact bJ (by decide)) (by decide) (by decide) (Nat.le_refl _)
 rcases h2 with ⟨h2,_⟩|⟨_,y,rfl,uf,_,hy⟩
 ·exact absurd Afd h2
 ·obtain ⟨x,z,rfl⟩:=WP uf
  have e1:=hy 0 _ _ rfl rfl;have e2:=hy 1 _ _ rfl rfl;simp only[A5]at e1 e2;have e3:x=Rat.divInt 1 2:=by
   rw[Rat.divInt_eq_div];grind
  have e4:z=Rat.divInt 1 4:=by
   rw[Rat.divInt_eq_div];grind
  rw[e3,e4]at h1;exact h1
theorem Aev (N:e8 L) (q q1:Bool):Ev L 238 [.sl q (LE q1 mC)] (.g9 [.sl false [],.int .i64 11]):=by
 obtain ⟨v,h1,h2⟩:=Xm N q q1 mC 2 3 rfl (by decide) (by omega) (by omega) (fR [[1,1],[1,1]] (by decide)) (by decide) (by decide) (Nat.le_refl _);rcases h2 with ⟨_,rfl⟩|⟨h2,_⟩
 ·exact h1
 ·exact absurd h2 Afe
theorem Wp (N:ji L):Ev L 243 [] (.bool true):=by
 have hO:=λ(z:Int) (h : -9223372036854775808<=z/\z<=9223372036854775807)=>S8 N.tob8 z h
 have hD:=λ q q'=>Wk N.toe8 q q'
 have hS:=λ q q1 q2=>Ahd N.toe8 q q1 q2
 have hI:=λ q q1=>Aev N.toe8 q q1
 have hSm:=oP N.tom6 (bJ (z := -2) (by decide)) (by omega);have hF1:=VD N.tob8 1 2 (by omega) (by omega);have hF2:=VD N.tob8 1 4 (by omega) (by omega);have hSl:=λ q1 q2=>cW N.tom6 q1 q2 [Rat.divInt 1 2,Rat.divInt 1 4] 3 (λ x hx=>by
  simp only[List.mem_cons,List.not_mem_nil,or_false]at hx;rcases hx with rfl|rfl
  ·exact ⟨by decide +kernel,by decide +kernel⟩
  ·exact ⟨by decide +kernel,by decide +kernel⟩) (by omega) (by simp)
 refine Ev.x N.LL rfl rfl ?_;(repeat' ((first|apply AC|refine AE (hO 1 (by omega)) ?_|refine AE (hO 2 (by omega)) ?_|refine AE (hO 3 (by omega)) ?_|refine AE (hO 4 (by omega)) ?_)<;>conv=>whnf))
 refine AU rfl ?_;(conv=>whnf)
 (repeat' ((first|refine PJ rfl rfl ?_|refine AE (hD _ _) ?_|refine AE (hO 1 (by omega)) ?_|refine AE (hO 2 (by omega)) ?_|refine AE (hO 0 (by omega)) ?_|refine AE (hO 4 (by omega)) ?_)<;>conv=>whnf))
 refine AU rfl ?_;(conv=>whnf)
 (repeat' ((first|refine PJ rfl rfl ?_|refine AE (hS _ _ _) ?_|refine AE (hO 1 (by omega)) ?_)<;>conv=>whnf))
 refine AU rfl ?_;(conv=>whnf)
 (repeat' ((first|(apply AG<;>intro hc<;>try omega)|refine PJ rfl rfl ?_|refine AE (hI _ _) ?_|refine AE (hSm) ?_|refine AE (hF1) ?_|refine AE (hF2) ?_|refine AE (hSl _ _) ?_|refine AE (hO (-2) (by omega)) ?_)<;>conv=>whnf))
 exact ES rfl
theorem PW {n:Nat} (h:1<=n/\n<=4):n=1\/n=2\/n=3\/n=4:=by omega
theorem Ae8 {a b:List (List Rat)} {n w k l:Nat} (z8 : ∀ r∈a,r.length=n) (mj : ∀ r∈b,r.length=w) (ha:Ms k a) (hb:Ms l b):Ms (n*(k+l+1)) (DE a b w):=λ r hr=>by
 obtain ⟨s,hs,rfl⟩:=List.mem_map.1 hr;intro x hx;obtain ⟨j,hj,rfl⟩:=List.mem_map.1 hx;have h1:=(ha s hs).dot (b:=DF b j) (l:=l) (λ y hy=>by
  obtain ⟨t,ht,rfl⟩:=List.mem_map.1 hy;obtain ⟨e,ql⟩:=List.getElem?_of_mem ht;exact (hb.at ql).at (GH (by rw[mj t ht];exact List.mem_range.1 hj)))
 rwa [z8 s hs]at h1
theorem Ae9 (a b:List (List Rat)) (w:Nat) : ∀ r∈DE a b w,r.length=w:=λ r hr=>by
 obtain ⟨x,_,rfl⟩:=List.mem_map.1 hr;exact O2 _ _ _
theorem Ahy {a:List (List Rat)} {w k:Nat} (z8 : ∀ r∈a,r.length=w) (ha:Ms k a):Ms k (FM a w):=λ r hr=>by
 obtain ⟨j,hj,rfl⟩:=List.mem_map.1 hr;intro x hx;obtain ⟨s,hs,rfl⟩:=List.mem_map.1 hx;obtain ⟨e,ql⟩:=List.getElem?_of_mem hs;exact (ha.at ql).at (GH (by rw[z8 s hs];exact List.mem_range.1 hj))
end Go.g6
namespace Go.g6
open F
attribute [local irreducible] AA AF AM AD CZ AX A9 BG B8 B6 CT D8 B9 BF B1 CR AB A6 AJ pw BN BH CQ CK C6 C7 CW BV D4
attribute [local irreducible] xW
variable {L:Lib}
set_option maxHeartbeats 16000000
set_option maxRecDepth 8000
end Go.g6

namespace Go.g6
open F
attribute [local irreducible] AA AF AM AD CZ AX A9 BG B8 B6 CT D8 B9 BF B1 CR AB A6 AJ pw BN BH CQ CK C6 C7 CW BV D4
variable {L:Lib} {b a:List Int} {d c:Wd}
set_option maxHeartbeats 16000000
end Go.g6

namespace Go.g6
open F
attribute [local irreducible] AA AF AM AD CZ AX A9 BG B8 B6 CT D8 B9 BF B1 CR AB A6 AJ pw BN BH CQ CK C6 C7 CW BV D4
variable {L:Lib} {d c:Wd} {p:List Int}
set_option maxHeartbeats 1000000
end Go.g6

namespace Go.g6
open F
attribute [local irreducible] AA AF AM AD CZ AX A9 BG B8 B6 CT D8 B9 BF B1 CR AB A6 AJ pw BN BH CQ CK C6 C7 CW BV D4
set_option maxHeartbeats 8000000
variable {L:Lib}
section
variable {b a:List Int} {d c:Wd}
end
end Go.g6

namespace Go.g6
open F
attribute [local irreducible] AA AF AM AD CZ AX A9 BG B8 B6 CT D8 B9 BF B1 CR AB A6 AJ pw BN BH CQ CK C6 C7 CW BV D4
set_option maxHeartbeats 8000000
set_option maxRecDepth 8000
variable {L:Lib}
section
variable {b a:List Int} {d c:Wd}
end
end Go.g6

namespace Go.g6
open F
attribute [local irreducible] AA AF AM AD CZ AX A9 BG B8 B6 CT D8 B9 BF B1 CR AB A6 AJ pw BN BH CQ CK C6 C7 CW BV D4
variable {L:Lib}
set_option maxHeartbeats 8000000
set_option maxRecDepth 8000
end Go.g6

namespace Go.g6
set_option maxHeartbeats 2000000
theorem VP {α:Type} {enc:α->List AV} {p:α->Prop} {e:Ty} {cs:List AV} (he : ∀ x,FW false e x -> ∃ y,x=enc y/\p y) (h:FW false (.sl e) cs) : ∃ l:List α,cs=[.sl false (l.map enc)]/\l.length<9223372036854775808 /\ ∀ y∈l,p y:=by
 obtain ⟨es,rfl,hl,hx⟩:=h;obtain ⟨l,rfl,hp⟩:=rD (enc:=enc) (p:=p) λ x hm=>he x (hx x hm)
 refine ⟨l,rfl,?_,hp⟩;have:maxLen=9223372036854775807:=rfl
 simp at hl;omega
theorem pV {cs:List AV} (h:FW false tI cs) : ∃ n,cs=OU n/\HA n:=by obtain ⟨n,rfl,hw⟩:=h;exact ⟨n,rfl,AhE hw⟩
theorem pW {cs:List AV} (h:FW false (.sl tI) cs) : ∃ l:List Int,cs=[.sl false (l.map OU)]/\l.length<9223372036854775808 /\ ∀ v∈l,HA v:=VP (λ_=>pV) h
theorem pZ {cs:List AV} (h:FW false (.int .u32) cs) : ∃ n:Nat,cs=AL n/\n<4294967296:=by
 obtain ⟨n,rfl,hw⟩:=h;simp only[Lit.wf,Bool.and_eq_true,decide_eq_true_eq]at hw;have h1:IntKind.u32.min=0:=rfl;have h2:IntKind.u32.max=4294967295:=rfl;rw[h1,h2]at hw;obtain ⟨k,rfl⟩ : ∃ k:Nat,n=k:=⟨n.toNat,by omega⟩;exact ⟨k,rfl,by omega⟩
abbrev vR:Ty := .sl (.int .u32)
abbrev Z8:Ty := .cons (.cons .bool (.cons vR .nil)) (.cons vR .nil)
def AQ.Raw (w:AQ):Prop:=(A1 w.m/\w.m.length<9223372036854775808)/\A1 w.d/\w.d.length<9223372036854775808
theorem Ze {cs:List AV} (h:FW false Z8 cs) : ∃ w:AQ,cs=eW w/\w.Raw:=by
 obtain ⟨_,_,rfl,⟨_,_,rfl,⟨b,rfl⟩,_,_,rfl,h1,rfl⟩,_,_,rfl,h2,rfl⟩:=h;obtain ⟨m,rfl,l1,d1⟩:=VP (enc:=AL) (λ_=>pZ) h1;obtain ⟨d,rfl,l2,d2⟩:=VP (enc:=AL) (λ_=>pZ) h2;exact ⟨⟨b,m,d⟩,rfl,⟨d1,l1⟩,d2,l2⟩
theorem pY {cs:List AV} (h:FW false (.sl Z8) cs) : ∃ l:List AQ,cs=[.sl false (l.map eW)]/\l.length<9223372036854775808 /\ ∀ w∈l,w.Raw:=VP (λ_=>Ze) h
theorem Zd {cs:List AV} (h:FW false (.sl Z8) cs) : ∃ l:List AQ,cs=[AV.sl false (l.map eW)]/\(l.length<9223372036854775808 /\ ∀ w∈l,w.Raw):=pY h
theorem pX {cs:List AV} (h:FW false (.sl (.sl Z8)) cs) : ∃ l:List (List AQ),cs=[.sl false (BO false l)]/\l.length<9223372036854775808 /\ ∀ r∈l,r.length<9223372036854775808 /\ ∀ w∈r,w.Raw:=VP (enc:=λ r:List AQ=>[AV.sl false (r.map eW)]) (λ_=>Zd) h
end Go.g6

namespace Go.g6
open F
set_option maxHeartbeats 8000000
variable {L:Lib}
def QR (M:Mem):Mem->Prop
 | []=>True
 | (k,s,c)::r=>c8 M k=some (s,c)/\QR M r
theorem QR.get {M:Mem} : ∀ {M0:Mem},QR M M0 -> ∀ k s c,c8 M0 k=some (s,c)->c8 M k=some (s,c)
 | [],_,_,_,_,e=>by cases e
 | (i,s0,c0)::r,h,k,s,c,e=>by
  simp only[c8]at e;cases hb:Nat.beq k i<;>simp only[hb,cond_true,cond_false]at e
  ·exact QR.get h.2 k s c e
  ·rw[BQ.1 hb,<-e];exact h.1
theorem GO.sub {σ:E7} {own:AH} {M M0:Mem} (h:GO σ own M) (hm:QR M M0):GO σ own M0:=by
 have hr : ∀ k t c,c5 M0 k t=some c->c5 M k t=some c:=λ k t c e=>by
  obtain ⟨s,c0,g,_⟩:=GQ e;have g2:=hm.get k s c0 g;unfold c5 at e ⊢;rw[g]at e;rw[g2];exact e
 exact ⟨λ k s c e=>h.site k s c (hm.get k s c e),λ k t c e=>h.g8 k t c (hr k t c e),λ k t c e=>h.old k t c (hr k t c e),λ k t k' t' c c' e e'=>h.inj k t k' t' c c' (hr k t c e) (hr k' t' c' e'),λ k t c e=>h.low k t c (hr k t c e)⟩
theorem jD {f:Nat} {vs:List AV} {tm:Tm} {M:Mem} {K:AV->Mem->Prop} (h:A6 L f vs tm M λ r M' => ∃ M1,QR M' M1/\K r M1):A6 L f vs tm M K:=by
 intro σ own hs;obtain ⟨r,n0,σ',M',h1,h2,h3,M1,h4,h5⟩:=h σ own hs;exact ⟨r,n0,σ',M1,h1,h2.sub h4,h3,h5⟩
def ZC (ks:List Nat):AV->Bool
 | .row k t _ _ _=>Nat.beq t 0&&JT k ks
 | .ptr k t _ _=>Nat.beq t 0&&JT k ks
 | _=>true
def VX (ks:List Nat):List AV->Bool
 | []=>true
 | v::r=>ZC ks v&&VX ks r
def gF (ks:List Nat):AV->Bool
 | .agg cs=>VX ks cs
 | .fn _ _ _ cs=>VX ks cs
 | v=>ZC ks v
def ZD (ks:List Nat):List AV->Bool
 | []=>true
 | v::r=>gF ks v&&ZD ks r
def gG (ks:List Nat):AV->Bool
 | .g9 vs=>ZD ks vs
 | v=>gF ks v
def ZE (ks:List Nat):Tm->Bool
 | []=>true
 | (_,v)::r=>gG ks v&&ZE ks r
theorem rI {k:Nat} : ∀ {l:List Nat},JT k l=true->k∈l
 | [],h=>by cases h
 | j::r,h=>by
  simp only[JT]at h;cases hb:Nat.beq k j<;>simp only[hb,cond_true,cond_false]at h
  ·exact List.mem_cons_of_mem _ (rI h)
  ·rw[BQ.1 hb];exact List.mem_cons_self
section
variable {ks:List Nat} {σ σ':E7} (hs : ∀ k∈ks,σ' k 0=σ k 0)
include hs
theorem WF {v:AV} (h:ZC ks v=true):BA σ' v=BA σ v:=by
 cases v<;>try rfl
 all_goals
  simp only[ZC,Bool.and_eq_true]at h;have h1:=BQ.1 h.1;have h2:=hs _ (rI h.2);subst h1;simp only[BA,h2]
theorem iG : ∀ {l:List AV},VX ks l=true->l.map (BA σ')=l.map (BA σ)
 | [],_=>rfl
 | v::r,h=>by
  simp only[VX,Bool.and_eq_true]at h;rw[List.map_cons,List.map_cons,WF hs h.1,iG h.2]
theorem iE {v:AV} (h:gF ks v=true):BM σ' v=BM σ v:=by
 cases v with
 | agg cs=>simp only[BM];rw[iG hs h]
 | fn p f g cs=>simp only[BM];rw[iG hs h]
 | row k t z o n=>exact WF hs (v := .row k t z o n) h
 | ptr k t i j=>exact WF hs (v := .ptr k t i j) h
 | _=>rfl
theorem vD : ∀ {l:List AV},ZD ks l=true->l.map (BM σ')=l.map (BM σ)
 | [],_=>rfl
 | v::r,h=>by
  simp only[ZD,Bool.and_eq_true]at h;rw[List.map_cons,List.map_cons,iE hs h.1,vD h.2]
theorem Ahf {v:AV} (h:gG ks v=true):BJ σ' v=BJ σ v:=by
 cases v with
 | g9 vs=>simp only[BJ];rw[vD hs h]
 | agg cs=>exact iE hs (v := .agg cs) h
 | fn p f g cs=>exact iE hs (v := .fn p f g cs) h
 | row k t z o n=>exact WF hs (v := .row k t z o n) h
 | ptr k t i j=>exact WF hs (v := .ptr k t i j) h
 | _=>rfl
end
theorem sM {ks:List Nat} : ∀ {tm:Tm},ZE ks tm=true -> ∀ j,gG ks (tg tm j)=true
 | [],_,_=>rfl
 | (i,v)::r,h,j=>by
  simp only[ZE,Bool.and_eq_true]at h;simp only[tg];cases hb:Nat.beq j i<;>simp only[cond_true,cond_false]
  ·exact sM h.2 j
  ·exact h.1
def WO:Nat->List Nat->Tm
 | _,[]=>[]
 | i,k::r=>(i,.ptr k 0 0 0)::WO (i+1) r
abbrev Z9 (ks:List Nat):Tm:=WO 0 ks
theorem vU : ∀ {ks:List Nat} {i k:Nat},k∈ks -> ∃ j,i<=j/\tg (WO i ks) j = .ptr k 0 0 0
 | [],_,_,h=>by cases h
 | j::r,i,k,h=>by
  rcases List.mem_cons.1 h with rfl|e
  ·exact ⟨i,Nat.le_refl _,by simp [WO,tg]⟩
  ·obtain ⟨a,h1,h2⟩:=vU (i:=i+1) e
   refine ⟨a,by omega,?_⟩;simp only[WO,tg];rw[FD.2 (show a≠i by omega),cond_false];exact h2
theorem SM {f:Nat} {vs:List AV} {tm:Tm} {M:Mem} {K:AV->Mem->Prop} (ks:List Nat) (M0:Mem) (hm:QR M M0) (ht:ZE ks tm=true) (h:A6 L f vs (Z9 ks) M0 K):A6 L f vs tm M K:=by
 intro σ own hs;obtain ⟨r,n0,σ',M',h1,h2,h3,h4⟩:=h σ own (hs.sub hm);refine ⟨r,n0,σ',M',h1,h2,λ j => ?_,h4⟩;refine Ahf (λ k hk => ?_) (sM ht j);obtain ⟨j,_,hj⟩:=vU (i:=0) hk;have:=h3 j
 rw[show tg (Z9 ks) j=_ from hj]at this;simp only[BJ,BM,BA,AV.ptr.injEq]at this;exact Prod.ext this.1 this.2.1
end Go.g6

namespace Go.g6
open F
attribute [local irreducible] AA AF AM AD CZ AX A9 BG B8 B6 CT D8 B9 BF B1 CR AB A6 AJ pw BN BH CQ CK C6 C7 CW BV D4
set_option maxHeartbeats 16000000
variable {L:Lib}
def LD (p:Rat) (t:List AQ):List AQ:=t.map λ x=>KY (x.v/p)
def GD (f:Rat) (r t:List AQ):List AQ:=List.zipWith (λ x y=>KY (x.v-f*y.v)) r t
theorem wF (p:Rat) (t:List AQ):(LD p t).map AQ.v=(t.map AQ.v).map (· / p):=by
 simp only[LD,List.map_map,Function.comp_def,TW]
theorem iR (f:Rat) : ∀ r t:List AQ,(GD f r t).map AQ.v=sj f (r.map AQ.v) (t.map AQ.v)
 | [],_=>by simp [GD,sj]
 | _::_,[]=>by simp [GD,sj]
 | x::r,y::t=>by
  have:=iR f r t
  simp only[GD,sj,List.zipWith_cons_cons,List.map_cons,TW]at this ⊢;rw[this]
theorem Ru {f:Rat} {r t:List AQ} (h:r.length=t.length):(GD f r t).length=r.length:=by simp [GD,h]
theorem Rt {f:Rat} {r t:List AQ} {j:Nat} {x y:AQ} (hx:r[j]? = some x) (hy:t[j]? = some y):(GD f r t)[j]? = some (KY (x.v-f*y.v)):=by
 rw[GD,List.getElem?_zipWith,hx,hy]
theorem lJ {f:Rat} : ∀ {r t:List AQ} {z:AQ},z∈GD f r t -> ∃ x∈r,∃ y∈t,z=KY (x.v-f*y.v)
 | [],_,_,h=>by simp [GD]at h
 | _::_,[],_,h=>by simp [GD]at h
 | x::r,y::t,z,h=>by
  simp only[GD,List.zipWith_cons_cons]at h;rcases List.mem_cons.1 h with rfl|h
  ·exact ⟨x,List.mem_cons_self,y,List.mem_cons_self,rfl⟩
  ·obtain ⟨a,ha,b,hb,e⟩:=lJ (r:=r) (t:=t) h
   exact ⟨a,List.mem_cons_of_mem _ ha,b,List.mem_cons_of_mem _ hb,e⟩
theorem aE (m:List (List AQ)) (i:Nat) (r:List AQ):vM (m.set i r)=(vM m).set i (r.map AQ.v):=by
 rw[vM,vM,List.map_set]
theorem wE {m:List (List AQ)} {i:Nat} {r:List Rat} (h:(vM m)[i]? = some r) : ∃ s,m[i]? = some s/\s.map AQ.v=r:=by
 rw[vM,List.getElem?_map]at h;cases hm:m[i]? with
 | none=>rw[hm]at h;cases h
 | some s=>rw[hm]at h;exact ⟨s,rfl,Option.some.inj h⟩
theorem YP {r:List AQ} {c:Nat} {x:AQ} (h:r[c]? = some x):(r.map AQ.v).getD c 0=x.v:=by
 rw[List.getD_eq_getElem?_getD,SC h];rfl
theorem AQ.Fit.le {w:AQ} {k l:Nat} (h:w.Fit k) (hl:k<=l):w.Fit l:=⟨h.1.le hl,h.2⟩
theorem CD.at {k:Nat} {m:List (List AQ)} {i:Nat} {r:List AQ} (h:CD k m) (hr:m[i]? = some r) : ∀ x∈r,x.Fit k:=h r (zM hr)
theorem CD.le {k l:Nat} {m:List (List AQ)} (h:CD k m) (hl:k<=l):CD l m:=λ r hr x hx=>(h r hr x hx).le hl
theorem VS {z:Nat} {m:List (List AQ)} {i:Nat} {r:List AQ} (h:m[i]? = some r):(A8 z eW m)[i]? = some (some (z,r.map eW)):=by
 simp only[A8,List.getElem?_map,h,Option.map_some]
theorem Afb {z:Nat} {m:List (List AQ)} {i j:Nat} {a b:List AQ}:((A8 z eW m).set i (some (z,b.map eW))).set j (some (z,a.map eW))=A8 z eW ((m.set i b).set j a):=by
 simp only[A8,List.map_set]
theorem Wr (N:m6 L) {x y:AQ} (hx:x.Sz 68719476736) (hy:y.Sz 68719476736) (h0:y.v≠0):Ev L 154 [.agg (eW x),.agg (eW y)] (.g9 [.agg (eQ (x.v/y.v)),.int .i64 0]):=by
 obtain ⟨a1,a2,a3,dc,s1,s2,s3,s5⟩:=PR N.tob8 x.n false x.m x.d 68719476736 (by omega) hx.1 hx.2;obtain ⟨b1,b2,b3,gn,t1,t2,t3,t5⟩:=PR N.tob8 y.n false y.m y.d 68719476736 (by omega) hy.1 hy.2;have l1:=s1.2;have l2:=s2.2;have l3:=t1.2;have l4:=t2.2;have s5':x.v=mkRat (zv a1 a2) (val a3):=by rw[AQ.v];exact s5
 have Rk:y.v=mkRat (zv b1 b2) (val b3):=by rw[AQ.v];exact t5
 have Ao:zv b1 b2≠0:=λ h=>h0 (by rw[Rk,h,Rat.zero_mkRat])
 have hS:=λ q=>YJ N.tob8 b1 q b2 (t1.le (by omega))
 have mq:fb (zv b1 b2)≠0:=by unfold fb;split<;>(try split)<;>omega
 have ck:=λ q q'=>RB N.tob8 a1 false q q' a2 b3 s1.1 t2.1 (by omega)
 have fi:=λ q q'=>RB N.tob8 false b1 q q' a3 b2 s2.1 t1.1 (by omega)
 have g1:Sm (68719476736+68719476736) (dg (zv a1 a2*zv false b3).natAbs):=R8 s1 t2;have g2:Sm (68719476736+68719476736) (dg (zv false a3*zv b1 b2).natAbs):=R8 s2 t1;have hR:=λ q q'=>VF N.tob8 (decide (zv a1 a2*zv false b3<0)) (decide (zv false a3*zv b1 b2<0)) q q' _ _ (g1.le (by omega)) (g2.le (by omega))
 rw[GA,GA]at hR;have he:x.v/y.v=Rat.divInt (zv a1 a2*zv false b3) (zv false a3*zv b1 b2):=by rw[s5',Rk,AeY s3 t3 Ao,E6,E6]
 rw[he];generalize fb (zv b1 b2)=sg at *;refine Ev.x N.NA rfl rfl ?_;(repeat' ((first|(apply AG<;>intro hc<;>try omega)|apply T9|apply AC|refine AE (dc) ?_|refine AE (gn) ?_|refine AE (hS _) ?_|refine AE (ck _ _) ?_|refine AE (fi _ _) ?_|refine AE (hR _ _) ?_)<;>conv=>whnf))
 exact AY rfl (by simp only[A7,CJ,and_true,true_and];exact ⟨CS _,CS _⟩)
theorem Adi (N:w5 L) {x y:AQ} (hx:x.Sz 68719476736) (hy:y.Sz 68719476736) (h0:y.v≠0):Ev L 276 [.agg (eW x),.agg (eW y)] (.agg (eQ (x.v/y.v))):=by
 have hD:=Wr N.tom6 hx hy h0;refine Ev.x N.NF rfl rfl ?_;(repeat' ((first|(apply AG<;>intro hc<;>try omega)|apply AC|refine AE (hD) ?_)<;>conv=>whnf))
 exact AY rfl (E8 _)
theorem Zh (N:m6 L) {x:AQ} {y:Rat} {l:Nat} (hx:x.Sz 68719476736) (hy:Bt l y) (hl:l<2199023255552):Ev L 153 [.agg (eW x),.agg (eQ y)] (.agg (eQ (x.v-y))):=by
 have hn:Bt l (-y):=⟨by rw[Rat.neg_num,Int.natAbs_neg];exact hy.1,by rw[Rat.neg_den];exact hy.2⟩;have hN:=oH N hy hl;have hA:=Xy N.tob8 hx (RF hn hl).2 (Nat.le_refl _) (Nat.le_refl _);rw[TW,<-Rat.sub_eq_add_neg]at hA;have hA':Ev L 126 [.agg (eW x),.agg (eQ (-y))] (.agg (eQ (x.v-y))):=hA;refine Ev.x N.NI rfl rfl ?_;(repeat' ((first|apply AC|refine AE (hN) ?_|refine AE (hA') ?_)<;>conv=>whnf))
 exact AY rfl (E8 _)
theorem oD (N:b8 L) {d:Rat} {y:AQ} {l:Nat} (hd:Bt l d) (hy:y.Sz 68719476736) (hl:l<2199023255552):Ev L 128 [.agg (eQ d),.agg (eW y)] (.agg (eQ (d*y.v))):=by
 have:=cY N (RF hd hl).2 hy (Nat.le_refl _) (Nat.le_refl _)
 rw[TW]at this;exact this
theorem oV (N:m6 L) {x:AQ} (hx:x.Sz 68719476736) : ∃ s:Int,Ev L 155 [.agg (eW x)] (.int .i64 s)/\(s=0↔x.v=0) :=
 ⟨_,Adz N hx (Nat.le_refl _),ZX⟩
structure KI (T:List (List Rat)) (n w K:Nat) (P:List Nat) (c:Nat) (d:Rat) (t:List AQ) (m:List (List AQ)) (i:Nat):Prop where
 re:CO T n w (vM m) P c d
 ht:m[P.length]? = some t
 one:(t.map AQ.v).getD c 0=1
 dn : ∀ (q:Nat) (r:List AQ),q<i->q≠P.length->m[q]? = some r->(r.map AQ.v).getD c 0=0
 lo : ∀ (q:Nat) (r:List AQ),q<i->m[q]? = some r -> ∀ x∈r,x.Fit (4*K+1)
 hi : ∀ (q:Nat) (r:List AQ),i<=q->q≠P.length->m[q]? = some r -> ∀ x∈r,x.Fit K
 bt : ∀ x∈t,x.Fit (2*K)
section
variable {T:List (List Rat)} {n w K:Nat} {P:List Nat} {c:Nat} {d:Rat} {m:List (List AQ)} {t:List AQ}
theorem KI.start {pw:AQ} (h:CO T n w (vM m) P c d) (hk:m[P.length]? = some t) (ym:t[c]? = some pw) (hp:pw.v≠0) (hM:CD K m) (hK:K<=10000000000):KI T n w K P c (d*pw.v) (LD pw.v t) (m.set P.length (LD pw.v t)) 0:=by
 have pe:=(zS hk).1;have rf:=hM.at hk;have Qa:=h.scale (GV hk) hp;rw[<-wF,<-aE]at Qa;refine ⟨Qa,by rw[List.getElem?_set,if_pos rfl,if_pos pe],?_,λ q r h1=>absurd h1 (by omega),λ q r h1=>absurd h1 (by omega),λ q r _ h2 hq => ?_,λ y hy => ?_⟩
 ·rw[wF,mG,YP ym,Rat.div_def,Rat.mul_inv_cancel _ hp]
 ·rw[List.getElem?_set,if_neg (Ne.symm h2)]at hq
  exact hM.at hq
 ·obtain ⟨z,hz,rfl⟩:=List.mem_map.1 hy
  exact RF (((rf z hz).1.vz (rf pw (zM ym)).1).le (by omega)) (by omega)
theorem KI.same {i:Nat} (h:KI T n w K P c d t m i) (hz:i≠P.length -> ∀ r,m[i]? = some r->(r.map AQ.v).getD c 0=0):KI T n w K P c d t m (i+1):=by
 refine ⟨h.re,h.ht,h.one,λ q r h1 h2 hq => ?_,λ q r h1 hq => ?_,λ q r h1=>h.hi q r (by omega),h.bt⟩
 ·by_cases e:q=i
  ·subst e;exact hz h2 r hq
  ·exact h.dn q r (by omega) h2 hq
 ·by_cases e:q=i
  ·by_cases e2:q=P.length
   ·subst e2
    cases h.ht.symm.trans hq;exact λ y hy=>(h.bt y hy).le (by omega)
   ·exact λ y hy=>(h.hi q r (by omega) e2 hq y hy).le (by omega)
  ·exact h.lo q r (by omega) hq
theorem KI.step {i:Nat} {r:List AQ} {fw:AQ} (h:KI T n w K P c d t m i) (hi:m[i]? = some r) (hf:r[c]? = some fw) (lz:i≠P.length) (hK:K<=10000000000):KI T n w K P c d t (m.set i (GD fw.v r t)) (i+1):=by
 have au:=(zS hi).1;have cn:=h.re.o5.lr _ (zM (GV hi));have ct:=h.re.o5.lr _ (zM (GV h.ht));have hrt:(r.map AQ.v).length=(t.map AQ.v).length:=by omega
 have fm : ∀ (q:Nat) (x:List AQ),(m.set i (GD fw.v r t))[q]? = some x->(q=i/\x=GD fw.v r t)\/(q≠i/\m[q]? = some x):=λ q x hx=>by
  rw[List.getElem?_set]at hx;by_cases e:i=q
  ·rw[if_pos e,if_pos (by omega)]at hx
   exact Or.inl ⟨e.symm,(Option.some.inj hx).symm⟩
  ·rw[if_neg e]at hx
   exact Or.inr ⟨Ne.symm e,hx⟩
 have Pz:=h.re.sj fw.v (GV h.ht) (GV hi) lz;rw[<-iR,<-aE]at Pz;refine ⟨Pz,by rw[List.getElem?_set,if_neg lz];exact h.ht,h.one,?_,?_,?_,h.bt⟩
 ·intro q x h1 h2 hx
  rcases fm q x hx with ⟨e1,rfl⟩|⟨e1,h3⟩
  ·rw[iR,lL hrt,h.one,YP hf];grind
  ·exact h.dn q x (by omega) h2 h3
 ·intro q x h1 hx
  rcases fm q x hx with ⟨e1,rfl⟩|⟨e1,h3⟩
  ·intro y hy
   obtain ⟨a,ha,b,qi,rfl⟩:=lJ hy;have Fu:=h.hi i r (Nat.le_refl _) lz hi;exact RF (((Fu a ha).1.rz ((Fu fw (zM hf)).1.mul (h.bt b qi).1)).le (by omega)) (by omega)
  ·exact h.lo q x (by omega) h3
 ·intro q x h1 h2 hx
  rcases fm q x hx with ⟨e1,rfl⟩|⟨e1,h3⟩
  ·omega
  ·exact h.hi q x (by omega) h2 h3
theorem KI.fin (h:KI T n w K P c d t m n):CO T n w (vM m) (P++[c]) (c+1) d/\CD (4*K+1) m:=by
 have bb:m.length=n:=by have:=h.re.len;rwa [vM,List.length_map]at this
 have o7 : ∀ (q:Nat) (r:List AQ),m[q]? = some r->q<n:=λ q r hq=>by
  have:=(zS hq).1
  omega
 refine ⟨h.re.tk (GV h.ht) h.one λ q r h1 hq => ?_,λ r hr => ?_⟩
 ·obtain ⟨s,hs,rfl⟩:=wE hq
  exact h.dn q s (o7 q s hs) h1 hs
 ·obtain ⟨q,hq⟩:=List.getElem?_of_mem hr
  exact h.lo q r (o7 q r hq) hq
end
def bM:Bool->Mem
 | false=>[]
 | true=>[(2,2,.bx [.bool false,.nil,.nil])]
def bK:Bool->List Nat
 | false=>[]
 | true=>[2]
def bT:Bool->Tm
 | false=>[]
 | true=>[(1000+(0+1),.ptr 2 0 0 0)]
theorem AfR (xb:Bool) (N:w5 L) (T:List (List Rat)) (n w o6 K:Nat) (hn:1<=n/\n<=10) (hw:1<=w/\w<=20) (hK:K<=10000000000) {m:List (List AQ)} {P:List Nat} {k c:Nat} {d d0:Rat} {t:List AQ} {pw:AQ} (hPk:P.length=k) (hR:CO T n w (vM m) P c d0) (hM:CD K m) (hkn:k<n) (ft:c<w) (ht:m[k]? = some t) (ym:t[c]? = some pw) (hp:pw.v≠0) {kk:List It} {Q:Tm->Mem->Prop}
  (ae : ∀ m2:List (List AQ),CO T n w (vM m2) (P++[c]) (c+1) (d0*pw.v)->CD (4*K+1) m2->AA L (.lp F8.l1 :: .g8 0::kk) ([(8,.int .i64 ((c+1:Nat):Int)),(6,.int .i64 ((k+1:Nat):Int)),(7,.ptr 901007 0 0 0),(5,.ptr 901005 0 0 0),(0,.row 277003 0 1 0 n),(0+1,.int .i64 o6)]++((1000+0,.ptr 277003 0 0 0)::bT xb)) ([(277003,277003,.mx (A8 3 eW m2)),(901007,901007,.bx (eQ d)),(901005,901005,.bx [.bool false,.nil,.nil])]++bM xb) Q) :
  AA L (.lp F8.l3 :: .g8 4 :: .code ((((BK.ops F8.iv false).dr [10,82,83,84,102] []).seq (BK.block 6 F8.l4.loop)).seq ((BK.ops F8.Dk false).dr [103,104,105,155,156] [])) :: .g8 1 :: .code ((BK.ops F8.r4 false).dr [9,25,26,48] []) :: .lp F8.l1 :: .g8 0::kk)
   ([(83,.int .i64 ((0:Nat):Int)),(82,.int .i64 (w:Nat)),(10,.ptr 901010 0 0 0),(8,.int .i64 c),(6,.int .i64 k),(7,.ptr 901007 0 0 0),(5,.ptr 901005 0 0 0),(0,.row 277003 0 1 0 n),(0+1,.int .i64 o6)]++((1000+0,.ptr 277003 0 0 0)::bT xb))
   ([(277003,277003,.mx (A8 3 eW m)),(901007,901007,.bx (eQ d)),(901010,901010,.bx (eW pw)),(901005,901005,.bx [.bool false,.nil,.nil])]++bM xb) Q:=by
 cases xb;all_goals
  subst hPk;have bb:m.length=n:=by have:=hR.len;rwa [vM,List.length_map]at this
  have ct:t.length=w:=by have:=hR.o5.lr _ (zM (GV ht));rwa [List.length_map]at this
  have rf:=hM.at ht;have Jc:=rf pw (zM ym);have Fi:=KI.start hR ht ym hp hM hK;have qg:=VS (z:=3) ht;have Fh:(A8 3 eW m).length=n:=by simp only[A8,List.length_map];omega
  have yh:(A8 3 eW m).set P.length (some (3,(LD pw.v t).map eW))=A8 3 eW (m.set P.length (LD pw.v t)):=by simp only[A8,List.map_set]
  have Gd:(LD pw.v t).length=w:=by rw[LD,List.length_map];exact ct
  have qj : ∀ (j:Nat) (x:AQ),t[j]? = some x->(LD pw.v t)[j]? = some (KY (x.v/pw.v)):=λ j x hx=>by rw[LD,List.getElem?_map,hx];rfl
  have Aj:=λ(x:AQ) (hx:x∈t)=>Adi N (rf x hx).2 Jc.2 hp
  generalize LD pw.v t=u at *;generalize pj:pw.v=pv at *;refine KB (l:=[_,_]) rfl ?_;generalize A8 3 eW m=R0 at *;have yu:R0.set P.length (some (3,t.map eW))=R0:=R3 qg;refine D0 (λ j=>w-j) (λ(j:Nat)=>j<=w) (λ j=>[(83,.int .i64 j)]) (λ j=>[(277003,277003,.mx (R0.set P.length (some (3,(u.take j++t.drop j).map eW))))]) [] [] 0 (by first|exact (by (conv=>whnf);exact ⟨rfl,rfl,rfl⟩)|(rw[List.take_zero,List.drop_zero,List.nil_append,yu];exact (by (conv=>whnf);exact ⟨rfl,rfl,rfl⟩))) (by omega) ?_;intro j j1 jh;have u9:(u.take j++t.drop j).length=w:=by rw[List.length_append,List.length_take,List.length_drop];omega
  by_cases hj:j<w
  ·obtain ⟨x,hx⟩ : ∃ x,t[j]? = some x:=⟨_,zE (by omega)⟩
   have zi:=fD (a:=u) (by omega) hx;have fc:=fE (a:=u) (b:=t) (by omega) (qj j x hx);have hO:=Aj x (zM hx);generalize u.take j++t.drop j=cm at *;(repeat' ((first|(apply AG<;>intro hc<;>try omega)|(apply AU;omega)|apply AC)<;>conv=>whnf))
   refine I2 (by omega) (by omega) ?_;(conv=>whnf)
   (repeat' ((first|(apply AU;omega)|fail)<;>conv=>whnf))
   refine I2 (by omega) (by omega) ?_;(conv=>whnf)
   skip
   refine AU (by rw[List.length_map];omega) ?_;(conv=>whnf)
   skip
   refine GM (by omega) (by omega) ?_;(conv=>whnf)
   (repeat' ((first|(refine DQ ?_ (λ_=>rfl) (λ v hv => ?_);omega)|fail)<;>conv=>whnf))
   cases zi.symm.trans hv;(repeat' (refine AE (hO) ?_<;>conv=>whnf))
   refine AU (by rw[List.length_map];omega) ?_;(conv=>whnf)
   skip
   refine GM (by omega) (by omega) ?_;(conv=>whnf)
   refine FJ (enc:=eW) (KY (x.v/pv)) rfl (λ_=>rfl) (by omega) ?_;rw[fc];(conv=>whnf)
   refine KF (by omega) (by rw[List.length_map,List.length_map,<-fc,List.length_set]) ?_;(conv=>whnf)
   (repeat' ((first|(apply A0;omega)|fail)<;>conv=>whnf))
   exact BR [] (jh (j+1) (by omega) (by omega))
  ·have ej:j=w:=by omega
   clear jh;rw[ej,zT (by omega),List.drop_of_length_le (by omega),List.append_nil,yh];clear u9 hj j1 ej j yh qg Fh yu qj Gd;have jy:(m.set P.length u).length=n:=by rw[List.length_set];exact bb
   generalize m.set P.length u=m2 at *;(repeat' ((first|(apply AG<;>intro hc<;>try omega)|apply AC)<;>conv=>whnf))
   refine KB (l:=[_,_]) rfl ?_;clear ht hM rf hR bb Jc ct Aj ym hp pj;have kn:u.length=w:=by have:=Fi.re.o5.lr _ (zM (GV Fi.ht));rwa [List.length_map]at this
   have po:=Fi.bt;refine GW (λ_ i=>n-i) (λ(m:List (List AQ)) (i:Nat)=>KI T n w K P c (d0*pv) u m i/\i<=n) (λ_ i=>[(104,.int .i64 i)]) (λ m _=>[(277003,277003,.mx (A8 3 eW m))]) m2 0 ⟨Fi,by omega⟩ ?_;clear Fi jy;intro m i ⟨hS,i1⟩ ih;have bb:m.length=n:=by have:=hS.re.len;rwa [vM,List.length_map]at this
   by_cases hi:i<n
   ·obtain ⟨rq,eg⟩ : ∃ r,m[i]? = some r:=⟨_,zE (by omega)⟩
    have Az:rq.length=w:=by have:=hS.re.o5.lr _ (zM (GV eg));rwa [List.length_map]at this
    have xg : ∀ x∈rq,x.Fit (2*K):=by
     by_cases e:i=P.length
     ·have h1:=hS.ht
      rw[<-e]at h1;cases h1.symm.trans eg;exact po
     ·exact λ y hy=>(hS.hi i rq (Nat.le_refl _) e eg y hy).le (by omega)
    obtain ⟨fw,gm⟩ : ∃ x,rq[c]? = some x:=⟨_,zE (by omega)⟩;have Lk:=xg fw (zM gm);obtain ⟨sg,qh,hz⟩:=oV N.tom6 Lk.2;by_cases lz:i=P.length
    ·have m4:=hS.same (λ h=>absurd lz h)
     (repeat' ((first|(apply AG<;>intro hc<;>try omega)|(apply AU;omega)|(refine EK ?_ (λ r hr => ?_);omega)|apply AC)<;>conv=>whnf))
     cases eg.symm.trans hr;refine AU (by rw[List.length_map];omega) ?_;(conv=>whnf)
     (repeat' ((first|(apply AG<;>intro hc<;>try omega)|(apply A0;omega)|(refine DQ ?_ (λ_=>rfl) (λ v hv => ?_);omega)|refine EV (by assumption) ?_)<;>conv=>whnf))
     exact BR [] (ih m (i+1) (by omega) ⟨m4,by omega⟩)
    ·by_cases mq:sg=0
     ·have Li:=hz.1 mq
      have m4:=hS.same (λ_ r h=>by cases eg.symm.trans h;rw[YP gm];exact Li);(repeat' ((first|(apply AG<;>intro hc<;>try omega)|(apply AU;omega)|(refine EK ?_ (λ r hr => ?_);omega)|apply AC)<;>conv=>whnf))
      cases eg.symm.trans hr;refine AU (by rw[List.length_map];omega) ?_;(conv=>whnf)
      (repeat' ((first|(apply AG<;>intro hc<;>try omega)|(refine DQ ?_ (λ_=>rfl) (λ v hv => ?_);omega)|refine EV (by assumption) ?_)<;>conv=>whnf))
      cases gm.symm.trans hv;(repeat' ((first|(apply AG<;>intro hc<;>try omega)|(apply A0;omega)|refine AE (qh) ?_)<;>conv=>whnf))
      exact BR [] (ih m (i+1) (by omega) ⟨m4,by omega⟩)
     ·have m4:=hS.step eg gm lz hK
      have qg:=VS (z:=3) eg;have hRk:=VS (z:=3) hS.ht;have Fh:(A8 3 eW m).length=n:=by simp only[A8,List.length_map];omega
      have yh:(A8 3 eW m).set i (some (3,(GD fw.v rq u).map eW))=A8 3 eW (m.set i (GD fw.v rq u)):=by simp only[A8,List.map_set]
      have u9:(GD fw.v rq u).length=w:=by rw[Ru (by omega)];exact Az
      have nf : ∀ (j:Nat) (x y:AQ),rq[j]? = some x->u[j]? = some y->(GD fw.v rq u)[j]? = some (KY (x.v-fw.v*y.v)):=λ j x y h1 h2=>Rt h1 h2
      generalize GD fw.v rq u=cb at *;(repeat' ((first|(apply AG<;>intro hc<;>try omega)|(apply AU;omega)|(refine EK ?_ (λ r hr => ?_);omega)|apply AC)<;>conv=>whnf))
      cases eg.symm.trans hr;refine AU (by rw[List.length_map];omega) ?_;(conv=>whnf)
      (repeat' ((first|(apply AG<;>intro hc<;>try omega)|(refine DQ ?_ (λ_=>rfl) (λ v hv => ?_);omega)|refine EV (by assumption) ?_)<;>conv=>whnf))
      cases gm.symm.trans hv;(repeat' ((first|(apply AG<;>intro hc<;>try omega)|(apply AU;omega)|(refine EK ?_ (λ r hr => ?_);omega)|refine AE (qh) ?_)<;>conv=>whnf))
      cases eg.symm.trans hr;rw[show (rq.map eW).length=w by rw[List.length_map];exact Az];generalize A8 3 eW m=R1 at *;have yu:R1.set i (some (3,rq.map eW))=R1:=R3 qg;refine D0 (λ j=>w-j) (λ(j:Nat)=>j<=w) (λ j=>[(127,.int .i64 j)]) (λ j=>[(277003,277003,.mx (R1.set i (some (3,(cb.take j++rq.drop j).map eW))))]) [] [] 0 (by first|exact (by (conv=>whnf);exact ⟨rfl,rfl,rfl⟩)|(rw[List.take_zero,List.drop_zero,List.nil_append,yu];exact (by (conv=>whnf);exact ⟨rfl,rfl,rfl⟩))) (by omega) ?_;intro j j1 jh;have Amm:(cb.take j++rq.drop j).length=w:=by rw[List.length_append,List.length_take,List.length_drop];omega
      by_cases hj:j<w
      ·obtain ⟨x,hx⟩ : ∃ x,rq[j]? = some x:=⟨_,zE (by omega)⟩
       obtain ⟨y,hy⟩ : ∃ y,u[j]? = some y:=⟨_,zE (by omega)⟩;have zi:=fD (a:=cb) (by omega) hx;have fc:=fE (a:=cb) (b:=rq) (by omega) (nf j x y hx hy);have ue:=po y (zM hy);have wj:=cY N.tob8 Lk.2 ue.2 (Nat.le_refl _) (Nat.le_refl _);have yx:=Zh N.tom6 (xg x (zM hx)).2 (Lk.1.mul ue.1) (by omega);generalize cb.take j++rq.drop j=cm at *;have Fg:(R1.set i (some (3,cm.map eW)))[P.length]? = some (some (3,u.map eW)):=by rw[List.getElem?_set,if_neg lz];exact hRk
       (repeat' ((first|(apply AG<;>intro hc<;>try omega)|(apply AU;omega)|apply AC)<;>conv=>whnf))
       refine I2 (by omega) (by omega) ?_;(conv=>whnf)
       (repeat' ((first|(apply AU;omega)|fail)<;>conv=>whnf))
       refine I2 (by omega) (by omega) ?_;(conv=>whnf)
       skip
       refine AU (by rw[List.length_map];omega) ?_;(conv=>whnf)
       skip
       refine GM (by omega) (by omega) ?_;(conv=>whnf)
       (repeat' ((first|(apply AU;omega)|(refine DQ ?_ (λ_=>rfl) (λ v hv => ?_);omega))<;>conv=>whnf))
       cases zi.symm.trans hv;skip
       refine yU (r:=some (3,u.map eW)) (by rw[show 0+((P.length:Nat):Int).toNat=P.length by omega];exact Fg) ?_;(conv=>whnf)
       skip
       refine AU (by rw[List.length_map];omega) ?_;(conv=>whnf)
       skip
       refine KE (by rw[show 0+((P.length:Nat):Int).toNat=P.length by omega];exact Fg) ?_;(conv=>whnf)
       (repeat' ((first|(refine DQ ?_ (λ_=>rfl) (λ v hv => ?_);omega)|fail)<;>conv=>whnf))
       cases hy.symm.trans hv;(repeat' ((first|refine AE (wj) ?_|refine AE (yx) ?_)<;>conv=>whnf))
       refine AU (by rw[List.length_map];omega) ?_;(conv=>whnf)
       skip
       refine GM (by omega) (by omega) ?_;(conv=>whnf)
       refine FJ (enc:=eW) (KY (x.v-fw.v*y.v)) rfl (λ_=>rfl) (by omega) ?_;rw[fc];(conv=>whnf)
       refine KF (by omega) (by rw[List.length_map,List.length_map,<-fc,List.length_set]) ?_;(conv=>whnf)
       (repeat' ((first|(apply A0;omega)|fail)<;>conv=>whnf))
       exact BR [] (jh (j+1) (by omega) (by omega))
      ·have ej:j=w:=by omega
       clear jh;rw[ej,zT (by omega),List.drop_of_length_le (by omega),List.append_nil,yh];(repeat' ((first|(apply AG<;>intro hc<;>try omega)|(apply A0;omega)|apply AC)<;>conv=>whnf))
       exact BR [] (ih (m.set i cb) (i+1) (by omega) ⟨m4,by omega⟩)
   ·have ei:i=n:=by omega
    rw[ei]at hS;obtain ⟨g1,g2⟩:=hS.fin;clear ih;(repeat' ((first|(apply AG<;>intro hc<;>try omega)|(apply A0;omega)|apply AC)<;>conv=>whnf))
    exact BL [] (by (conv=>whnf);exact ⟨rfl,rfl,rfl⟩) (ae m g1 g2)
theorem AfQ (xb:Bool) (N:w5 L) (T:List (List Rat)) (n w o6 k0:Nat) (hn:1<=n/\n<=10) (hw:1<=w/\w<=20) (u9:o6<=w/\o6<=10) (hB:10*FF k0 o6<=100000000000) {m0:List (List AQ)} (pc:CO T n w (vM m0) [] 0 1) (yg:CD k0 m0) {kk:List It} {Q:Tm->Mem->Prop}
  (ae : ∀ (m:List (List AQ)) (P:List Nat) (c:Nat) (d:Rat),CO T n w (vM m) P c d->c<=o6->(o6<=c\/n<=P.length)->CD (FF k0 o6) m->Bt 100000000000 d->AA L kk ([(8,.int .i64 c),(6,.int .i64 (P.length:Nat)),(7,.ptr 901007 0 0 0),(5,.ptr 901005 0 0 0),(0,.row 277003 0 1 0 n),(0+1,.int .i64 o6)]++((1000+0,.ptr 277003 0 0 0)::bT xb)) ([(277003,277003,.mx (A8 3 eW m)),(901007,901007,.bx (eQ d)),(901005,901005,.bx [.bool false,.nil,.nil])]++bM xb) Q) :
  AA L (.lp F8.l1 :: .g8 0::kk) ([(8,.int .i64 ((0:Nat):Int)),(6,.int .i64 ((0:Nat):Int)),(7,.ptr 901007 0 0 0),(5,.ptr 901005 0 0 0),(0,.row 277003 0 1 0 n),(0+1,.int .i64 o6)]++((1000+0,.ptr 277003 0 0 0)::bT xb)) ([(277003,277003,.mx (A8 3 eW m0)),(901007,901007,.bx (eQ ((1:Int):Rat))),(901005,901005,.bx [.bool false,.nil,.nil])]++bM xb) Q:=by
 have Oy := @AfR L xb N T n w o6;cases xb;all_goals
  refine KB (l:=[_,_]) rfl ?_;refine aM (λ_ c _ _=>o6-c) (λ(m:List (List AQ)) (c:Nat) (P:List Nat) (d:Rat)=>CO T n w (vM m) P c d/\c<=o6/\CD (FF k0 c) m/\Bt (c*FF k0 o6) d) (λ_ c P _=>[(8,.int .i64 c),(6,.int .i64 (P.length:Nat))]) (λ m _ _ d=>[(277003,277003,.mx (A8 3 eW m)),(901007,901007,.bx (eQ d))]) [24] [] m0 0 [] ((1:Int):Rat) (by (conv=>whnf);exact ⟨rfl,rfl,rfl⟩) ⟨pc,by omega,yg,Bt.one _⟩ ?_;intro m c P d ⟨hR,Kx,hM,hd⟩ eh;have bb:m.length=n:=by have:=hR.len;rwa [vM,List.length_map]at this
  have Lu:=hR.o5.le;have Oq:=tJ k0 (c:=c) (o6-c);rw[show c+(o6-c)=o6 by omega]at Oq;have hcX:c*FF k0 o6<=10*FF k0 o6:=zR _ (by omega);have tu:(P++[c]).length=P.length+1:=by simp
  have oz:P.length<=n:=by have:=hR.o5.pl;have:=hR.len;omega
  by_cases ft:c<o6/\P.length<n
  ·(repeat' ((first|(apply AG<;>intro hc<;>try omega)|apply AC)<;>conv=>whnf))
   refine DT (λ i=>n-i) (λ(i:Nat)=>P.length<=i/\i<=n /\ ∀ (q:Nat) (r:List AQ),P.length<=q->q<i->m[q]? = some r->(r.map AQ.v).getD c 0=0) (λ i=>[(9,.int .i64 i)]) (λ_=>[]) P.length ⟨Nat.le_refl _,by omega,λ q r h1 h2=>absurd h2 (by omega)⟩ ?_;intro i ⟨i1,i2,i3⟩ ih;by_cases hi:i<n
   ·obtain ⟨rp,k9⟩ : ∃ r,m[i]? = some r:=⟨_,zE (by omega)⟩
    have cn:rp.length=w:=by have:=hR.o5.lr _ (zM (GV k9));rwa [List.length_map]at this
    obtain ⟨rc,cr⟩ : ∃ x,rp[c]? = some x:=⟨_,zE (by omega)⟩;have wi:=hM.at k9 rc (zM cr);obtain ⟨sg,qh,hz⟩:=oV N.tom6 wi.2;by_cases mq:sg=0
    ·(repeat' ((first|(apply AG<;>intro hc<;>try omega)|(apply AU;omega)|(refine EK ?_ (λ r hr => ?_);omega)|apply AC)<;>conv=>whnf))
     cases k9.symm.trans hr;refine AU (by rw[List.length_map];omega) ?_;(conv=>whnf)
     (repeat' ((first|(refine DQ ?_ (λ_=>rfl) (λ v hv => ?_);omega)|refine EV (by assumption) ?_)<;>conv=>whnf))
     cases cr.symm.trans hv;(repeat' ((first|(apply AG<;>intro hc<;>try omega)|(apply A0;omega)|refine AE (qh) ?_)<;>conv=>whnf))
     have i4 : ∀ (q:Nat) (r:List AQ),P.length<=q->q<i+1->m[q]? = some r->(r.map AQ.v).getD c 0=0:=λ q r h1 h2 h3=>by
      by_cases e:q=i
      ·subst e
       cases k9.symm.trans h3;rw[YP cr];exact hz.1 mq
      ·exact i3 q r h1 (by omega) h3
     exact BR [] (ih (i+1) (by omega) ⟨by omega,by omega,i4⟩)
    ·clear ih i3
     have qu:rc.v≠0:=λ e=>mq (hz.2 e)
     obtain ⟨t,ti⟩ : ∃ t,m[P.length]? = some t:=⟨_,zE (by omega)⟩;by_cases lz:i=P.length
     ·have wj:=oD N.tob8 hd wi.2 (by omega)
      have La:Bt ((c+1)*FF k0 o6) (d*rc.v):=(hd.mul wi.1).le (by rw[Nat.succ_mul];omega);subst lz;(repeat' ((first|(apply AG<;>intro hc<;>try omega)|(apply AU;omega)|(refine EK ?_ (λ r hr => ?_);omega)|apply AC)<;>conv=>whnf))
      cases k9.symm.trans hr;refine AU (by rw[List.length_map];omega) ?_;(conv=>whnf)
      (repeat' ((first|(refine DQ ?_ (λ_=>rfl) (λ v hv => ?_);omega)|refine EV (by assumption) ?_)<;>conv=>whnf))
      cases cr.symm.trans hv;(repeat' ((first|(apply AG<;>intro hc<;>try omega)|(apply AU;omega)|(refine EK ?_ (λ r hr => ?_);omega)|refine AE (qh) ?_)<;>conv=>whnf))
      cases k9.symm.trans hr;refine AU (by rw[List.length_map];omega) ?_;(conv=>whnf)
      (repeat' ((first|(refine DQ ?_ (λ_=>rfl) (λ v hv => ?_);omega)|refine EV (by assumption) ?_)<;>conv=>whnf))
      cases cr.symm.trans hv;(repeat' ((first|(apply AU;omega)|(refine EK ?_ (λ r hr => ?_);omega)|refine AE (wj) ?_)<;>conv=>whnf))
      cases k9.symm.trans hr;rw[show (rp.map eW).length=w by rw[List.length_map];exact cn];exact BL [] (by (conv=>whnf);exact ⟨rfl,rfl,rfl⟩) (Oy (FF k0 c) hn hw (by omega) rfl hR hM ft.2 (by omega) k9 cr qu λ m2 g1 g2=>by rw[<-tu];exact BL [] (by (conv=>whnf);exact ⟨rfl,rfl,rfl⟩) (eh m2 (c+1) (P++[c]) _ (by omega) ⟨g1,by omega,g2,La⟩))
     ·have hNg:=oH N.tom6 hd (by omega)
      have wj:=oD N.tob8 (Bt.Ad hd) wi.2 (by omega);have La:Bt ((c+1)*FF k0 o6) (-d*rc.v):=((Bt.Ad hd).mul wi.1).le (by rw[Nat.succ_mul];omega);refine iY 24 ?_;(conv=>whnf)
      (repeat' ((first|(apply AG<;>intro hc<;>try omega)|(apply AU;omega)|(refine EK ?_ (λ r hr => ?_);omega))<;>conv=>whnf))
      cases k9.symm.trans hr;refine AU (by rw[List.length_map];omega) ?_;(conv=>whnf)
      (repeat' ((first|(refine DQ ?_ (λ_=>rfl) (λ v hv => ?_);omega)|refine EV (by assumption) ?_)<;>conv=>whnf))
      cases cr.symm.trans hv;(repeat' ((first|(apply AG<;>intro hc<;>try omega)|(apply AU;omega)|(refine EK ?_ (λ r hr => ?_);omega)|refine EV (by assumption) ?_|refine AE (qh) ?_)<;>conv=>whnf))
      refine AU ⟨rfl,by simp only[A8,List.length_map];omega⟩ ?_;(conv=>whnf)
      (repeat' ((first|(apply AU;omega)|refine EV (by assumption) ?_)<;>conv=>whnf))
      rw[show 0+((i:Nat):Int).toNat=i by omega,show 0+((P.length:Nat):Int).toNat=P.length by omega];refine AU ⟨rfl,by simp only[A8,List.length_map,List.length_set,List.length_range];omega,aL (by simp only[A8,List.length_map];omega)⟩ ?_;(conv=>whnf)
      refine WS (k:=277003) (i:=i) (j:=P.length) rfl (VS k9) (VS ti) rfl rfl ?_;rw[Afb];have Kc:=hR.swap (GV k9) (GV ti) (by omega);rw[<-aE,<-aE]at Kc;have fi:CD (FF k0 c) ((m.set i t).set P.length rp):=λ x hx=>by
       rcases List.mem_or_eq_of_mem_set hx with h|rfl
       ·rcases List.mem_or_eq_of_mem_set h with h|rfl
        ·exact hM x h
        ·exact hM.at ti
       ·exact hM.at k9
      have ga:((m.set i t).set P.length rp)[P.length]? = some rp:=by rw[List.getElem?_set,if_pos rfl,if_pos (by rw[List.length_set];omega)]
      have kp:((m.set i t).set P.length rp).length=n:=by rw[List.length_set,List.length_set];exact bb
      generalize (m.set i t).set P.length rp=m1 at *;(repeat' ((first|(apply AU;omega)|(refine EK ?_ (λ r hr => ?_);omega)|apply AC|refine AE (hNg) ?_)<;>conv=>whnf))
      cases ga.symm.trans hr;refine AU (by rw[List.length_map];omega) ?_;(conv=>whnf)
      (repeat' ((first|(refine DQ ?_ (λ_=>rfl) (λ v hv => ?_);omega)|refine EV (by assumption) ?_)<;>conv=>whnf))
      cases cr.symm.trans hv;(repeat' ((first|(apply AU;omega)|(refine EK ?_ (λ r hr => ?_);omega)|refine AE (wj) ?_)<;>conv=>whnf))
      cases ga.symm.trans hr;rw[show (rp.map eW).length=w by rw[List.length_map];exact cn];exact BL [] (by (conv=>whnf);exact ⟨rfl,rfl,rfl⟩) (Oy (FF k0 c) hn hw (by omega) rfl Kc fi ft.2 (by omega) ga cr qu λ m2 g1 g2=>by rw[<-tu];exact BL [] (by (conv=>whnf);exact ⟨rfl,rfl,rfl⟩) (eh m2 (c+1) (P++[c]) _ (by omega) ⟨g1,by omega,g2,La⟩))
   ·have ei:i=n:=by omega
    clear ih;have hR9:=hR.skip λ q r h1 h3=>by
     obtain ⟨s,hs,rfl⟩:=wE h3;exact i3 q s (by omega) (by have:=(zS hs).1;omega) hs
    clear i3;(repeat' ((first|(apply AG<;>intro hc<;>try omega)|(apply A0;omega)|apply AC)<;>conv=>whnf))
    exact BL [] (by (conv=>whnf);exact ⟨rfl,rfl,rfl⟩) (eh m (c+1) P d (by omega) ⟨hR9,by omega,hM.le (show FF k0 c<=4*FF k0 c+1 by omega),hd.le (zR _ (by omega))⟩)
  ·clear eh
   have z9:o6<=c\/n<=P.length:=by omega
   (repeat' ((first|(apply AG<;>intro hc<;>try omega)|apply AC)<;>conv=>whnf))
   all_goals exact BL [] (by (conv=>whnf);exact ⟨rfl,rfl,rfl⟩) (ae m P c d hR Kx z9 (hM.le Oq) (hd.le (by omega)))
theorem bP (xb:Bool) (N:w5 L) (T:List (List Rat)) (n w o6 k0:Nat) (hn:1<=n/\n<=10) (hw:1<=w/\w<=20) (u9:o6<=w/\o6<=10) (hB:10*FF k0 o6<=100000000000) {m0:List (List AQ)} (pc:CO T n w (vM m0) [] 0 1) (yg:CD k0 m0) {K:AV->Mem->Prop}
  (hK : ∀ (m:List (List AQ)) (P:List Nat) (c:Nat) (d:Rat),CO T n w (vM m) P c d->c<=o6->(o6<=c\/n<=P.length)->CD (FF k0 o6) m->Bt 100000000000 d->K (.g9 [.int .i64 (P.length:Nat),.agg (eQ d)]) ((277003,277003,.mx (A8 3 eW m))::bM xb)) :
  A6 L 901 [.row 277003 0 1 0 n,.int .i64 (o6:Nat)] (Z9 (277003::bK xb)) ((277003,277003,.mx (A8 3 eW m0))::bM xb) K:=by
 have hMn := @AfQ L xb N T n w o6 k0;cases xb;all_goals
  have hI:=S8 N.tob8 1 (by omega);have bb:m0.length=n:=by have:=pc.len;rwa [vM,List.length_map]at this
  refine jD ?_;refine FB 1000 N.F8 rfl rfl ?_;(repeat' ((first|apply AC|refine AE (hI) ?_)<;>conv=>whnf))
  refine BL [] (by (conv=>whnf);exact ⟨rfl,rfl,rfl⟩) (hMn hn hw u9 hB pc yg (λ m P c d h1 h2 h3 h4 h5 => ?_));have hk:=hK m P c d h1 h2 h3 h4 h5;(repeat' (apply AC<;>conv=>whnf))
  refine ⟨rfl,?_⟩;(conv=>whnf)
  refine ⟨_,?_,hk⟩;first|exact ⟨rfl,trivial⟩|exact ⟨rfl,rfl,trivial⟩
end Go.g6

namespace Go.g6
open F
attribute [local irreducible] AA AF AM AD CZ AX A9 BG B8 B6 CT D8 B9 BF B1 CR AB A6 AJ pw BN BH CQ CK C6 C7 CW BV D4
variable {L:Lib}
set_option maxHeartbeats 16000000
theorem fW (z:Nat) (m:List (List Rat)):A8 z eW (wM m)=A8 z eQ m:=by
 simp only[A8,wM,List.map_map,Function.comp_def,YB]
theorem bO (xb:Bool) (N:w5 L) (q1 q2:Bool) (aw:List (List AQ)) (n w k:Nat) (k7:aw.length=n) (j9 : ∀ r∈aw,r.length=w) (hn:n<=52) (hw:w<=52) (cq:CD k aw) {K:AV->Mem->Prop} (hK:K (.row 277003 0 1 0 n) ((277003,277003,.mx (A8 3 eQ (vM aw)))::bM xb)) :
  A6 L 277 [.sl q1 (BO q2 aw)] (Z9 (bK xb)) (bM xb) K:=by
 obtain ⟨a,v8⟩ : ∃ a,vM aw=a:=⟨_,rfl⟩;rw[v8]at hK;have ah:a.length=n:=v8 ▸ F9 k7;have Cf : ∀ (i:Nat) (r:List AQ),aw[i]? = some r->a[i]? = some (r.map AQ.v):=λ i r h=>v8 ▸ GV h
 cases xb;all_goals
  refine jD ?_;refine E2 1000 N.J4 rfl rfl ?_;(repeat' ((first|apply AW|apply AC)<;>conv=>whnf))
  refine QH 277003 277003 rfl ?_;refine DT (λ i=>n-i) (λ(i:Nat)=>i<=n) (λ i=>[(11,.int .i64 i),(3,.row 277003 0 1 0 i)]) (λ i=>[(277003,277003,.mx (A8 3 eQ (a.take i)))]) 0 (by omega) ?_;intro i p1 ih;have Bf:(a.take i).length=i:=by rw[List.length_take];omega
  by_cases hi:i<n
  ·obtain ⟨ra,zo⟩ : ∃ r,aw[i]? = some r:=⟨_,zE (by omega)⟩
   have mn:aw[(i:Int).toNat]? = some ra:=zo;have cn:=j9 ra (zM zo);have fe:=cq.at zo;have yn:=K2 (Cf i ra zo);have Nm : ∀ (j:Nat) (x:AQ),ra[j]? = some x->(ra.map AQ.v)[j]? = some x.v:=λ j x h=>SC h
   have mc:(ra.map AQ.v).length=w:=by rw[List.length_map];exact cn
   generalize a.take i=R0 at *;generalize ra.map AQ.v=r at *;(repeat' ((first|(apply AG<;>intro hc<;>try omega)|apply AW|(refine BD (by assumption) ?_ rfl ?_;omega)|apply AC)<;>conv=>whnf))
   refine DT (λ j=>w-j) (λ(j:Nat)=>j<=w) (λ j=>[(17,.int .i64 j),(6,.row 277006 0 3 0 j)]) (λ j=>[(277006,277006,.rw 3 ((r.take j).map eQ))]) 0 (by omega) ?_;intro j p2 jh;have ka:(r.take j).length=j:=by rw[List.length_take];omega
   by_cases hj:j<w
   ·obtain ⟨x,hx⟩ : ∃ x,ra[j]? = some x:=⟨_,zE (by omega)⟩
    have mw:ra[(j:Int).toNat]? = some x:=hx;have fc:=K2 (Nm j x hx);have hT:=dH N.tob8 (fe x (zM hx)).2 (Nat.le_refl _);generalize r.take j=M0 at *;(repeat' ((first|(apply AG<;>intro hc<;>try omega)|(refine BD (by assumption) ?_ rfl ?_;omega)|apply FI|apply AC|refine AE (hT) ?_)<;>conv=>whnf))
    refine FS (enc:=eQ) x.v rfl ka.symm rfl (by omega) (by omega) ?_;(conv=>whnf)
    (repeat' ((first|(apply A0;omega)|fail)<;>conv=>whnf))
    rw[<-fc,show (r.take (j+1)).length=j+1 by rw[List.length_take];omega];exact BR [(277006,277025)] (jh (j+1) (by omega) (by omega))
   ·obtain rfl:j=w:=by omega
    clear jh;rw[zT (by omega)];(repeat' ((first|(apply AG<;>intro hc<;>try omega)|apply AC)<;>conv=>whnf))
    refine AU (by rw[List.length_map,mc]) ?_;refine QI (r:=r) (en:=eQ) Bf.symm (by omega) (by omega) ?_;rw[<-yn,show (a.take (i+1)).length=i+1 by rw[List.length_take];omega];(conv=>whnf)
    (repeat' ((first|(apply A0;omega)|fail)<;>conv=>whnf))
    exact BR [(277003,277030)] (ih (i+1) (by omega) (by omega))
  ·obtain rfl:i=n:=by omega
   clear ih;rw[zT (by omega)];(repeat' ((first|(apply AG<;>intro hc<;>try omega)|apply AC)<;>conv=>whnf))
   refine ⟨rfl,_,rfl,?_⟩;(conv=>whnf)
   refine ⟨_,?_,hK⟩;first|exact ⟨rfl,trivial⟩|exact ⟨rfl,rfl,trivial⟩
theorem Ag9 (m:List (List Rat)) (n k:Nat):HV (m.map (·.drop n)) k=HV m (n+k):=by
 simp only[HV,List.map_map,Function.comp_def];exact List.map_congr_left λ r _=>by rw[List.getD_eq_getElem?_getD,List.getElem?_drop,<-List.getD_eq_getElem?_getD]
def aX (a b:List (List Rat)) (n W:Nat) (v:AV):Prop :=
 (¬ NS n a/\v = .g9 [.sl false [],.int .i64 11])\/(NS n a /\ ∃ U:List (List Rat),v = .g9 [.sl false (eM U),.int .i64 0]/\U.length=n/\(∀ r∈U,r.length=W)/\Ms 100000000000 U /\ ∀ k,k<W -> ∀ (i:Nat) (r s:List Rat),a[i]? = some r->b[i]? = some s->A5 r (HV U k)=s.getD k 0)
theorem nT (N:w5 L) (q1 q2 q3 q4:Bool) (aw bw:List (List AQ)) (n W k:Nat) (k7:aw.length=n) (j9 : ∀ r∈aw,r.length=n) (bp:bw.length=n) (dj : ∀ r∈bw,r.length=W) (kj:CD k bw) (hn:1<=n/\n<=10) (hW:1<=W/\W<=10) (cq:CD k aw) (hk:k<=1000) (hB:10*FF k n<=100000000000) :
  ∃ v,Ev L 278 [.sl q1 (BO q2 aw),.sl q3 (BO q4 bw)] v/\aX (vM aw) (vM bw) n W v:=by
 obtain ⟨a,v8⟩ : ∃ a,vM aw=a:=⟨_,rfl⟩;obtain ⟨b,gv⟩ : ∃ b,vM bw=b:=⟨_,rfl⟩;rw[v8,gv];have ah:a.length=n:=v8 ▸ F9 k7;have z8 : ∀ r∈a,r.length=n:=v8 ▸ GK j9;have bj:Ms k a:=v8 ▸ cq.ms;have gy:b.length=n:=gv ▸ F9 bp;have mj : ∀ r∈b,r.length=W:=gv ▸ GK dj;have Jg:vM (EC (wM a) bw)=DI a b:=by rw[iQ,K4,gv]
 have zf:(EC (wM a) bw).length=n:=qK (PC ah) bp;obtain ⟨Ct,Cs⟩:=qJ (PD z8) dj (CD.of bj (by omega)) kj;have pc:CO (DI a b) n (n+W) (vM (EC (wM a) bw)) [] 0 1:=by
  have h1:=F9 zf;have h2:=GK Ct;rw[Jg]at h1 h2 ⊢;exact CO.start h1 h2
 have zt:(wM a).length=n:=PC ah;have Np:=PD z8;refine Ev.xE N.NL rfl rfl ?_;(repeat' (apply AC<;>conv=>whnf))
 refine SM [] [] trivial rfl (bO false N q1 q2 aw n n k k7 j9 (by omega) (by omega) cq ?_);rw[v8,<-fW];(conv=>whnf)
 skip
 rw[show (A8 3 eW (wM a))=A8 3 eW ((EC (wM a) bw).take 0++(wM a).drop 0) by rw[List.take_zero,List.drop_zero,List.nil_append]];refine DT (λ j=>n-j) (λ(j:Nat)=>j<=n) (λ j=>[(19,.int .i64 j)]) (λ j=>[(277003,277003,.mx (A8 3 eW ((EC (wM a) bw).take j++(wM a).drop j)))]) 0 (by omega) ?_;intro j p2 jh;have bb:((EC (wM a) bw).take j++(wM a).drop j).length=n:=by rw[List.length_append,List.length_take,List.length_drop];omega
 by_cases hj:j<n
 ·obtain ⟨r,k9⟩ : ∃ r,(wM a)[j]? = some r:=⟨_,zE (by omega)⟩
  obtain ⟨s,kx⟩ : ∃ s,bw[j]? = some s:=⟨_,zE (by omega)⟩;have Hh:bw[(j:Int).toNat]? = some s:=kx;have cn:=Np r (zM k9);have Mz:=dj s (zM kx);have Kd:=fD (a:=EC (wM a) bw) (by omega) k9;have hRs:=fE (a:=EC (wM a) bw) (b:=wM a) (by omega) (eC k9 kx);generalize (EC (wM a) bw).take j++(wM a).drop j=R0 at *;(repeat' ((first|(apply AG<;>intro hc<;>try omega)|(apply AU;omega)|(refine BD (by assumption) ?_ rfl ?_;omega)|(refine EK ?_ (λ r hr => ?_);omega)|refine EV (by assumption) ?_|apply AC)<;>conv=>whnf))
  cases Kd.symm.trans hr;refine WT (enc:=eW) (by rw[List.length_map]) (λ_=>rfl) (by omega) (by omega) ?_;intro s' v;(conv=>whnf)
  (repeat' ((first|(apply AU;omega)|fail)<;>conv=>whnf))
  refine AU ⟨rfl,by rw[List.length_map]⟩ ?_;refine K5 (i:=j) (by omega) (by rw[List.length_set];simp only[A8,List.length_map];omega) ?_;rw[show 0+((j:Int)).toNat=j by omega,List.set_set,show (A8 3 eW R0).set j (some (3,(r++s).map eW))=A8 3 eW (R0.set j (r++s)) by simp only[A8,List.map_set],hRs];(conv=>whnf)
  (repeat' ((first|(apply A0;omega)|fail)<;>conv=>whnf))
  exact BR [] (jh (j+1) (by omega) (by omega))
 ·have ej:j=n:=by omega
  clear jh;rw[ej,zT (by omega),List.drop_of_length_le (by omega),List.append_nil];(repeat' ((first|(apply AG<;>intro hc<;>try omega)|apply AW|apply AC)<;>conv=>whnf))
  rw[k7];refine SM [277003] [(277003,277003,.mx (A8 3 eW (EC (wM a) bw)))] ⟨rfl,trivial⟩ rfl (bP false N (DI a b) n (n+W) n k hn (by omega) (by omega) hB pc Cs (λ m P c d h1 h2 h3 h4 h5 => ?_));have kp:m.length=n:=by have:=h1.len;rwa [vM,List.length_map]at this
  have ic:=h1.ns (by omega) z8 h2 h3;by_cases ga:P.length<n
  ·(repeat' ((first|(apply AG<;>intro hc<;>try omega)|apply AW)<;>conv=>whnf))
   refine ⟨_,AY rfl (by simp only[A7,CJ,GL,true_and,and_true]),Or.inl ⟨λ h => ?_,rfl⟩⟩;have:=ic.2 h
   omega
  ·have oz:P.length=n:=by have:=h1.o5.pl;rw[h1.len]at this;omega
   have ae : ∀ r:AV,r = .g9 [.sl false (eM ((vM m).map (·.drop n))),.int .i64 0]->aX a b n W r:=λ r hr=>Or.inr ⟨ic.1 oz,(vM m).map (·.drop n),hr,by rw[List.length_map];exact h1.len,λ x hx=>by
    obtain ⟨y,hy,rfl⟩:=List.mem_map.1 hx;rw[List.length_drop,h1.o5.lr y hy];omega,λ x hx z hz=>by
    obtain ⟨y,hy,rfl⟩:=List.mem_map.1 hx;exact (h4.ms y hy z (List.mem_of_mem_drop hz)).le (by omega),λ k2 ga i r s hr hs=>by
    rw[Ag9];exact h1.sol (by omega) z8 mj h2 oz ga hr hs⟩
   have yi:((vM m).map (·.drop n)).length=n:=by rw[List.length_map];exact h1.len
   have Kf : ∀ (q:Nat) (r:List AQ),m[q]? = some r->((vM m).map (·.drop n))[q]? = some ((r.map AQ.v).drop n):=λ q r hq=>by rw[List.getElem?_map,GV hq];rfl
   (repeat' ((first|(apply AG<;>intro hc<;>try omega)|apply AW)<;>conv=>whnf))
   refine QH 10 10 rfl ?_;generalize (vM m).map (·.drop n)=U at *;refine DT (λ i=>n-i) (λ(i:Nat)=>i<=n) (λ i=>[(48,.int .i64 i),(10,.row 10 0 1 0 i)]) (λ i=>[(10,10,.mx (A8 3 eQ (U.take i)))]) 0 (by omega) ?_;intro i i1 ih;have Nj:(U.take i).length=i:=by rw[List.length_take];omega
   by_cases ub:i<n
   ·obtain ⟨rp,k9⟩ : ∃ r,m[i]? = some r:=⟨_,zE (by omega)⟩
    have cn:rp.length=n+W:=by have:=h1.o5.lr _ (zM (GV k9));rwa [List.length_map]at this
    have fe:=h4.at k9;have hut:=K2 (Kf i rp k9);have Gd:((rp.map AQ.v).drop n).length=W:=by rw[List.length_drop,List.length_map];omega
    have qj : ∀ (j:Nat) (x:AQ),rp[n+j]? = some x->((rp.map AQ.v).drop n)[j]? = some x.v:=λ j x hx=>by rw[List.getElem?_drop,SC hx]
    generalize U.take i=R0 at *;generalize (rp.map AQ.v).drop n=rd at *;(repeat' ((first|(apply AG<;>intro hc<;>try omega)|(apply AU;omega)|apply AW|(refine EK ?_ (λ r hr => ?_);omega)|apply AC)<;>conv=>whnf))
    cases k9.symm.trans hr;refine xX n (by omega) (by rw[List.length_map];omega) ?_;rw[List.length_map,cn];(conv=>whnf)
    skip
    refine DT (λ j=>W-j) (λ(j:Nat)=>j<=W) (λ j=>[(59,.int .i64 j),(12,.row 12 0 3 0 j)]) (λ j=>[(12,12,.rw 3 ((rd.take j).map eQ))]) 0 (by omega) ?_;intro j j1 jh;have ka:(rd.take j).length=j:=by rw[List.length_take];omega
    by_cases hj:j<W
    ·obtain ⟨x,hx⟩ : ∃ x,rp[n+j]? = some x:=⟨_,zE (by omega)⟩
     have fc:=K2 (qj j x hx);have Ie:=dH N.tob8 (fe x (zM hx)).2 (Nat.le_refl _);generalize rd.take j=M0 at *;(repeat' ((first|(apply AG<;>intro hc<;>try omega)|(apply AU;omega)|refine EV (by assumption) ?_|apply AC)<;>conv=>whnf))
     refine UD (enc:=eW) (e:=x) (l:=rp) (by rw[show 0+n+((j:Nat):Int).toNat=n+j by omega];exact hx) rfl ?_;(conv=>whnf)
     (repeat' ((first|apply FI|refine AE (Ie) ?_)<;>conv=>whnf))
     refine FS (enc:=eQ) x.v rfl ka.symm rfl (by omega) (by omega) ?_;(conv=>whnf)
     (repeat' ((first|(apply A0;omega)|fail)<;>conv=>whnf))
     rw[<-fc,show (rd.take (j+1)).length=j+1 by rw[List.length_take];omega];exact BR [(12,67)] (jh (j+1) (by omega) (by omega))
    ·have ej:j=W:=by omega
     clear jh;rw[ej,zT (by omega)];(repeat' ((first|(apply AG<;>intro hc<;>try omega)|apply AC)<;>conv=>whnf))
     refine AU (by rw[List.length_map,Gd]) ?_;refine QI (r:=rd) (en:=eQ) Nj.symm (by omega) (by omega) ?_;rw[<-hut,show (U.take (i+1)).length=i+1 by rw[List.length_take];omega];(conv=>whnf)
     (repeat' ((first|(apply A0;omega)|fail)<;>conv=>whnf))
     exact BR [(10,72)] (ih (i+1) (by omega) (by omega))
   ·have ei:i=n:=by omega
    clear ih;rw[ei,zT (by omega)];(repeat' ((first|(apply AG<;>intro hc<;>try omega)|apply AC)<;>conv=>whnf))
    refine ⟨.g9 [.sl false (eM U),.int .i64 0],?_,ae _ rfl⟩;(conv=>whnf)
    refine KH (λ_=>rfl) rfl yi.symm ?_;(conv=>whnf)
    exact AY rfl (H2 U 0)
theorem Xn (N:w5 L) (q1 q2:Bool) (aw:List (List AQ)) (n k:Nat) (k7:aw.length=n) (j9 : ∀ r∈aw,r.length=n) (hn:1<=n/\n<=10) (cq:CD k aw) (hk:k<=1000) (hB:10*FF k n<=100000000000) :
  ∃ v,Ev L 279 [.sl q1 (BO q2 aw)] v/\aX (vM aw) (DK n) n n v:=by
 have hV:=RC N.tom5 q1 q2 aw n n k7 j9 (by omega) (by omega);have hI:Ev L 240 [.int .i64 (aw.length:Nat)] (.g9 [.sl false (eM (DK n)),.int .i64 0]):=by
  rw[k7];exact oR N.tom5 n (by omega)
 obtain ⟨v,h1,h2⟩:=nT N q1 q2 false false aw (wM (DK n)) n n k k7 j9 (PC (Sq.id n).l) (PD (Sq.id n).r) (CD.of (Ms.id n k) (by omega)) hn hn cq hk hB;rw[OT]at h1;rw[K4]at h2;obtain ⟨r0,k9⟩ : ∃ r,aw[0]? = some r:=⟨_,zE (by omega)⟩;have ek:aw[(0:Int).toNat]? = some r0:=k9;have da:=j9 r0 (zM k9);refine ⟨v,?_,h2⟩;rcases h2 with ⟨_,rfl⟩|⟨_,U,rfl,_⟩
 ·refine Ev.x N.HI rfl rfl ?_
  (repeat' ((first|(apply AG<;>intro hc<;>try omega)|apply AW|(refine BD (by assumption) ?_ rfl ?_;omega)|apply AC|refine AE (hV) ?_|refine AE (hI) ?_|refine AE (h1) ?_)<;>conv=>whnf))
  exact AY rfl (by simp only[A7,CJ,GL,true_and,and_true])
 ·refine Ev.x N.HI rfl rfl ?_
  (repeat' ((first|(apply AG<;>intro hc<;>try omega)|apply AW|(refine BD (by assumption) ?_ rfl ?_;omega)|apply AC|refine AE (hV) ?_|refine AE (hI) ?_|refine AE (h1) ?_)<;>conv=>whnf))
  exact AY rfl (H2 U 0)
theorem Adv (N:m5 L) (q1 q2 q3 q4:Bool) (aw bw:List (List AQ)) (p n w k l:Nat) (k7:aw.length=p) (j9 : ∀ r∈aw,r.length=n) (bp:bw.length=n) (dj : ∀ r∈bw,r.length=w) (hp:1<=p/\p<=52) (hn:1<=n/\n<=52) (hw:1<=w/\w<=52) (cq:CD k aw) (kj:CD l bw) (hB:n*(k+l+1)<2199023255552) :
  Ev L 241 [.sl q1 (BO q2 aw),.sl q3 (BO q4 bw)] (.g9 [.sl false (eM (DE (vM aw) (vM bw) w)),.int .i64 0]):=by
 obtain ⟨a,v8⟩ : ∃ a,vM aw=a:=⟨_,rfl⟩;obtain ⟨b,gv⟩ : ∃ b,vM bw=b:=⟨_,rfl⟩;rw[v8,gv];have ah:a.length=p:=v8 ▸ F9 k7;have z8 : ∀ r∈a,r.length=n:=v8 ▸ GK j9;have bj:Ms k a:=v8 ▸ cq.ms;have gy:b.length=n:=gv ▸ F9 bp;have mj : ∀ r∈b,r.length=w:=gv ▸ GK dj;have ij:Ms l b:=gv ▸ kj.ms;have Cf : ∀ (i:Nat) (r:List AQ),aw[i]? = some r->a[i]? = some (r.map AQ.v):=λ i r h=>v8 ▸ GV h
 have Kr : ∀ (i:Nat) (r:List AQ),bw[i]? = some r->b[i]? = some (r.map AQ.v):=λ i r h=>gv ▸ GV h
 have Ij:=RC N q1 q2 aw p n k7 j9 hp hn;have Ik:=RC N q3 q4 bw n w bp dj hn hw;have hO:=S8 N.tob8 0 (by omega);obtain ⟨r0,k9⟩ : ∃ r,aw[0]? = some r:=⟨_,zE (by omega)⟩;have ek:aw[(0:Int).toNat]? = some r0:=k9;have da:=j9 r0 (zM k9);obtain ⟨s0,kx⟩ : ∃ r,bw[0]? = some r:=⟨_,zE (by omega)⟩;have Hh:bw[(0:Int).toNat]? = some s0:=kx;have ng:=dj s0 (zM kx);have fm : ∀ (i:Nat) (r:List Rat),a[i]? = some r->(DE a b w)[i]? = some (E0 r b w):=λ i r hr=>by rw[DE,List.getElem?_map,hr];rfl
 have ct:(DE a b w).length=p:=by rw[Y1];exact ah
 generalize hT:DE a b w=T at *;refine Ev.x N.HJ rfl rfl ?_;(repeat' ((first|(apply AG<;>intro hc<;>try omega)|apply AW|(refine BD (by assumption) ?_ rfl ?_;omega)|apply AC|refine AE (Ij) ?_|refine AE (Ik) ?_)<;>conv=>whnf))
 refine QH 6 6 rfl ?_;refine DT (λ i=>p-i) (λ(i:Nat)=>i<=p) (λ i=>[(31,.int .i64 i),(6,.row 6 0 1 0 i)]) (λ i=>[(6,6,.mx (A8 3 eQ (T.take i)))]) 0 (by omega) ?_;intro i p1 ih;have Bf:(T.take i).length=i:=by rw[List.length_take];omega
 by_cases hi:i<p
 ·obtain ⟨ra,zo⟩ : ∃ r,aw[i]? = some r:=⟨_,zE (by omega)⟩
  have mn:aw[(i:Int).toNat]? = some ra:=zo;have Am8:=j9 ra (zM zo);have Mr:=cq ra (zM zo);obtain ⟨r,kv⟩ : ∃ r,ra.map AQ.v=r:=⟨_,rfl⟩;have hr:a[i]? = some r:=kv ▸ Cf i ra zo;have cn:=z8 r (zM hr);have fe:=bj.at hr;have Hg : ∀ (j:Nat) (x:AQ),ra[j]? = some x->r[j]? = some x.v:=λ j x h=>kv ▸ SC h
  have yn:=K2 (fm i r hr);have dz : ∀ j,j<w->(E0 r b w)[j]? = some (A5 r (DF b j)):=λ j hj=>by simp [E0,hj]
  have bb:=O2 r b w;generalize T.take i=R0 at *;generalize E0 r b w=M at *;(repeat' ((first|(apply AG<;>intro hc<;>try omega)|apply AW|(refine BD (by assumption) ?_ rfl ?_;omega)|apply AC)<;>conv=>whnf))
  refine DT (λ j=>w-j) (λ(j:Nat)=>j<=w) (λ j=>[(38,.int .i64 j),(8,.row 8 0 3 0 j)]) (λ j=>[(8,8,.rw 3 ((M.take j).map eQ))]) 0 (by omega) ?_;intro j p2 jh;have ka:(M.take j).length=j:=by rw[List.length_take];omega
  by_cases hj:j<w
  ·have fc:=K2 (dz j hj)
   have u9:=UY b j;have lk:Bs l (DF b j):=λ x hx=>by
    obtain ⟨s,hs,rfl⟩:=List.mem_map.1 hx;obtain ⟨e,ql⟩:=List.getElem?_of_mem hs;exact (ij.at ql).at (GH (by rw[mj s hs];exact hj))
   have hce : ∀ (t:Nat) (s:List Rat) (x:Rat),b[t]? = some s->s[j]? = some x->(DF b j)[t]? = some x:=λ t s x h1 h2=>by
    rw[DF,List.getElem?_map,h1,Option.map_some,List.getD_eq_getElem?_getD,h2];rfl
   generalize DF b j=C at *;generalize M.take j=M0 at *;(repeat' ((first|(apply AG<;>intro hc<;>try omega)|apply AW|apply AC|refine AE (hO) ?_)<;>conv=>whnf))
   refine D0 (λ t=>n-t) (λ(t:Nat)=>t<=n) (λ t=>[(44,.int .i64 t)]) (λ t=>[(10,10,.bx (eQ (A5 (r.take t) (C.take t))))]) [] [] 0 (by first|exact (by (conv=>whnf);exact ⟨rfl,rfl,rfl⟩)|(rw[List.take_zero,List.take_zero];exact (by (conv=>whnf);exact ⟨rfl,rfl,rfl⟩))) (by omega) ?_;intro t p3 th;by_cases ht:t<n
   ·obtain ⟨sw,Hn⟩ : ∃ s,bw[t]? = some s:=⟨_,zE (by omega)⟩
    have qy:bw[(t:Int).toNat]? = some sw:=Hn;have Anh:=dj sw (zM Hn);obtain ⟨xw,xq⟩ : ∃ x,ra[t]? = some x:=⟨_,zE (by omega)⟩;obtain ⟨yw,Jk⟩ : ∃ y,sw[j]? = some y:=⟨_,zE (by omega)⟩;have mw:ra[(t:Int).toNat]? = some xw:=xq;have Hr:sw[(j:Int).toNat]? = some yw:=Jk;have hx:=Hg t xw xq;have hy:=SC Jk;have hs:=Kr t sw Hn;have ue:=(kj sw (zM Hn) yw (zM Jk)).1;have dw:=(fe.take t).dot (lk.take t);rw[List.length_take,Nat.min_eq_left (by omega)]at dw;have pe:k+l+1<=n*(k+l+1):=Nat.le_mul_of_pos_left _ (by omega);have htn:t*(k+l+1)<=n*(k+l+1):=zR _ (by omega);have wj:=cY N.tob8 (Mr xw (zM xq)).2 (kj sw (zM Hn) yw (zM Jk)).2 (Nat.le_refl _) (Nat.le_refl _);have Bw:=Xw N.tob8 dw ((fe.at hx).mul ue) (by omega) (by omega);rw[<-cL hx (hce t _ yw.v hs hy)]at Bw;generalize A5 (r.take t) (C.take t)=d0 at *;generalize pd:A5 (r.take (t+1)) (C.take (t+1))=d1 at Bw;generalize xw.v*yw.v=xy at *;(repeat' ((first|(apply AG<;>intro hc<;>try omega)|(apply A0;omega)|(refine BD (by assumption) ?_ rfl ?_;omega)|apply AC|refine AE (wj) ?_|refine AE (Bw) ?_)<;>conv=>whnf))
    subst pd;exact BR [] (th (t+1) (by omega) (by omega))
   ·obtain rfl:t=n:=by omega
    clear th;rw[U5 cn];(repeat' ((first|(apply AG<;>intro hc<;>try omega)|apply FI|apply AC)<;>conv=>whnf))
    refine FS (enc:=eQ) (A5 r C) rfl ka.symm rfl (by omega) (by omega) ?_;rw[<-fc,show (M.take (j+1)).length=j+1 by rw[List.length_take];omega];(conv=>whnf)
    (repeat' ((first|(apply A0;omega)|fail)<;>conv=>whnf))
    exact BR [(8,68)] (jh (j+1) (by omega) (by omega))
  ·obtain rfl:j=w:=by omega
   clear jh;rw[zT (by omega)];(repeat' ((first|(apply AG<;>intro hc<;>try omega)|apply AC)<;>conv=>whnf))
   refine AU (by rw[List.length_map,bb]) ?_;refine QI (r:=M) (en:=eQ) Bf.symm (by omega) (by omega) ?_;rw[<-yn,show (T.take (i+1)).length=i+1 by rw[List.length_take];omega];(conv=>whnf)
   (repeat' ((first|(apply A0;omega)|fail)<;>conv=>whnf))
   exact BR [(6,73)] (ih (i+1) (by omega) (by omega))
 ·obtain rfl:i=p:=by omega
  clear ih;rw[zT (by omega)];(repeat' ((first|(apply AG<;>intro hc<;>try omega)|apply AC)<;>conv=>whnf))
  refine KH (λ_=>rfl) rfl ct.symm ?_;(conv=>whnf)
  exact AY rfl (H2 T 0)
end Go.g6
