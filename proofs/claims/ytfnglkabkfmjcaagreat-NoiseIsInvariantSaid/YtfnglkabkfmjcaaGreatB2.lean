/-
  Addresses, loads, stores, slices.
-/
import Derived.Test.YtfnglkabkfmjcaaGreatB1
import Derived.Laws.Slices
import Derived.Orders
set_option linter.unusedSimpArgs false
set_option linter.unusedVariables false
set_option linter.unnecessarySimpa false
namespace Go.e9
open Go.RowKit
section
variable {B:Nat} {S:Nat->Prop} {w0:World} {m:M}
variable {P:Program} {num:Nat->Nat} {o:Oper} {a:Act} {ρ:AP->AV}
theorem qK {x:AV} {v:Value} (h:CV B S m x v) (h1:x ≠ .any) (h2 : ∀ cs,x ≠ .agg cs) (h3 : ∀ cs,x ≠ .m9 cs) (h4 : ∀ p f g cs,x ≠ .fn p f g cs:=by intros;simp):CC B S m x v:=by
 cases h with
 | any=>exact absurd rfl h1
 | m9 as=>exact absurd rfl (h3 as)
 | ca h=>cases h with
  | one h=>exact h
  | agg cs=>exact absurd rfl (h2 cs)
  | fn p f g cs=>exact absurd rfl (h4 p f g cs)
  | xp f g cs=>exact absurd rfl (h4 true f g cs)
theorem mE {s t i j:Nat} {v:Value} (h:CV B S m (.ptr s t i j) v) : ∃ ad,v = .pointer (some ad)/\t<m.own.n6 s /\ ∀ b,m.own.get s t=some b -> ∃ g,m.ν s t=some g/\ad=⟨g,i*b.c7+j,none⟩:=by
 cases qK h (by simp) (by simp) (by simp) with
 | rd h=>cases h
 | ptr s t i j ad ht h'=>exact ⟨ad,rfl,ht,h'⟩
theorem vN {cs:List AV} {v:Value} (h:CV B S m (.bu cs) v) : ∃ (b o:Nat) (u:Nat->Value) (l:Bool),v = .pointer (some ⟨b,o,none⟩)/\(cs≠[]->safe B S m l b)/\(∀ j c,cs[j]? = some c->m.w.cell? ⟨b,o+j,none⟩=some (u j))/\(∀ j c,cs[j]? = some c->Rd m.w (safe B S m) c (u j)):=by
 cases qK h (by simp) (by simp) (by simp) with
 | rd h=>cases h
 | bu _ b o u l h1 h2 h3=>exact ⟨b,o,u,l,rfl,h1,h2,h3⟩
theorem jN {s t z off len:Nat} {v:Value} (h:CV B S m (.row s t z off len) v) : ∃ (ad:Option Addr) (cap:Nat),v = .slice ad len cap/\t<m.own.n6 s/\0<z/\len<=cap/\(0<len->ad.isSome=true) /\
  ∀ b,m.own.get s t=some b->b.c7=z/\((len=0/\cap=0) \/ ∃ g arr e,m.ν s t=some g/\ad=some ⟨g,off*z,none⟩/\m.w.heap[g]? = some (.cells arr e (0,0))/\(off+cap)*z<=arr.size):=by
 cases qK h (by simp) (by simp) (by simp) with
 | rd h=>cases h
 | row s t z off len ad cap ht ja si ha h'=>exact ⟨ad,cap,rfl,ht,ja,si,ha,h'⟩
theorem qM {l:Bool} {es:List (List AV)} {v:Value} (h:CV B S m (.sl l es) v):Rd m.w (safe B S m) (.sl l es) v:=by
 cases qK h (by simp) (by simp) (by simp) with
 | rd h=>exact h
theorem Akk (hm:BQ B S w0 m) (hs:CT B S m ρ a.eval) {x':AP} {off:Nat} (h:BG P num o.op (.a7 x' off)=true) {s t i j:Nat} (hx:ρ x' = .ptr s t i j):CY B S w0 P o a m (.val (.ptr s t i (j+off))):=by
 obtain ⟨ty,x,f,fs,fd,inf,s8,h1,hu,hf,ho,hi,da⟩:=Aea h;obtain ⟨ad,hv,ht,hb⟩:=mE (hx ▸ hs x x' h1);refine EH hm (u := .pointer (some (ad.add off))) ?_ (.ca (.one (.ptr s t i (j+off) _ ht λ b s9 => ?_)))
 ·simp [execOp,s8,hv,Instr.fieldAt,run_underlying hu,hf,Instr.sureAddr,fieldPlace,sizeOf,typeInfo,hi,da,ho]
 ·obtain ⟨g,hg,rfl⟩:=hb b s9
  exact ⟨g,hg,by rw[H8];simp;omega⟩
theorem Akj (hm:BQ B S w0 m) (hs:CT B S m ρ a.eval) {x':AP} {off:Nat} (h:BG P num o.op (.a7 x' off)=true) {cs:List AV} (hx:ρ x' = .bu cs):CY B S w0 P o a m (.val (.bu (cs.drop off))):=by
 obtain ⟨ty,x,f,fs,fd,inf,s8,h1,hu,hf,ho,hi,da⟩:=Aea h;obtain ⟨b,ob,u,l,hv,hR,hc,hr⟩:=vN (hx ▸ hs x x' h1);refine EH hm (u := .pointer (some ⟨b,ob+off,none⟩)) ?_ (.ca (.one (.bu _ b (ob+off) (λ j=>u (off+j)) l (λ u7=>hR (λ e=>u7 (by simp [e]))) (λ j c hj => ?_) (λ j c hj => ?_))))
 ·simp [execOp,s8,hv,Instr.fieldAt,run_underlying hu,hf,Instr.sureAddr,fieldPlace,sizeOf,typeInfo,hi,da,ho,H8]
 ·rw[List.getElem?_drop]at hj
  rw[Nat.add_assoc];exact hc _ c hj
 ·rw[List.getElem?_drop]at hj
  exact hr _ c hj
theorem rV {agg:Bool} {cs:List AV} {v:AV} (h:W9 agg cs=some v) {vs:List Value} (hc:CL B S m cs vs):CV B S m v (if agg then .agg vs.toArray else vs.getD 0 undef)/\(agg=false->vs.length=1):=by
 unfold W9 at h;cases agg with
 | true =>
  obtain rfl:AV.agg cs=v:=by simpa using h
  exact ⟨.ca (.agg cs vs hc),by simp⟩
 | false =>
  simp only[Bool.false_eq_true,if_false]at h;split at h
  ·rename_i c
   obtain rfl:c=v:=by simpa using h
   obtain ⟨u,hu,bq⟩:=jL hc (j:=0) (c:=c) rfl;refine ⟨?_,λ_=>by rw[<-hc.1];rfl⟩;simp only[Bool.false_eq_true,if_false,List.getD,hu,Option.getD_some];exact .ca (.one bq)
  ·cases h
theorem ApD (t:TypeId) (agg:Bool) (inf:TypeInfo) (my : ∀ w,(isAgg t).run P w = .ok agg w) (hi:P.info? t=some inf) (vs:List Value) (off n:Nat) (hn:inf.size=n) (hle:off+n<=vs.length) (h1:agg=false->n=1) (w:World) :
  (Go.part t vs.toArray off).run P w = .ok (if agg then .agg ((vs.drop off).take n).toArray else ((vs.drop off).take n).getD 0 undef) w:=by
 unfold Go.part;rw[Sem.run_bind,my w];cases agg with
 | true=>simp [sizeOf,typeInfo,hi,hn,List.extract_eq_take_drop]
 | false =>
  have v9:off<vs.length:=by have:=h1 rfl;omega
  simp [v9,h1 rfl]
theorem Akl (hm:BQ B S w0 m) (hs:CT B S m ρ a.eval) {x':AP} {off n:Nat} {agg:Bool} (h:BG P num o.op (.ry x' off n agg)=true) {cs ds:List AV} {v:AV} (hx:ρ x' = .agg cs) (hp:part cs off n=some ds) (hv:W9 agg ds=some v) :
  CY B S w0 P o a m (.val v):=by
 obtain ⟨ty,x,f,fs,fd,inf,s8,h1,hu,hf,ho,hi,da,my,h0⟩:=AnG h;obtain ⟨vs,fq,z7⟩:=qJ (hx ▸ hs x x' h1);unfold e9.part at hp;split at hp
 ·rename_i hle
  obtain rfl:(cs.drop off).take n=ds:=by simpa using hp
  obtain ⟨db,pq⟩:=rV hv (Ai6 z7 off n);have hl:=z7.1;have Bb:agg=false->n=1:=λ e=>by have:=pq e;simp at this;omega
  refine EH hm ?_ db;simp only[execOp,s8,Sem.run_bind,Instr.field,run_underlying hu,Result.andThen_ok,hf,fq,asAgg,Sem.run_pure,ho];rw[ApD fd.type agg inf my hi vs off n da (by omega) Bb];rfl
 ·cases hp
theorem Akm (hm:BQ B S w0 m) (hs:CT B S m ρ a.eval) {len c7:Nat} {x' i':AP} (h:BG P num o.op (.b9 (some len) c7 x' i')=true) {k:IntKind} {n:Int} {s t i0 j:Nat} (ay:ρ i' = .int k n) (hx:ρ x' = .ptr s t i0 j) (h0:0<=n) (hn:n<len) :
  CY B S w0 P o a m (.val (.ptr s t i0 (j+n.toNat*c7))):=by
 obtain ⟨ty,x,i,e,inf,s8,h1,h2,hi,da,fx⟩:=rK h;rcases fx with ⟨xn,hl,hu,v9⟩|⟨hl,_⟩
 ·obtain rfl:len=xn:=by simpa using hl
  obtain ⟨ad,hv,ht,hb⟩:=mE (hx ▸ hs x x' h1);have Ak:=IH (ay ▸ hs i i' h2);refine EH hm (u := .pointer (some (ad.add (n.toNat*c7)))) ?_ (.ca (.one (.ptr s t i0 (j+n.toNat*c7) _ ht λ b s9 => ?_)))
  ·simp [execOp,s8,hv,Ak,Instr.indexAt,asIntOf,run_underlying hu,Instr.sureAddr,sizeOf,typeInfo,hi,da,h0,hn]
  ·obtain ⟨g,hg,rfl⟩:=hb b s9
   exact ⟨g,hg,by rw[H8];simp;omega⟩
 ·cases hl
theorem Akn (hm:BQ B S w0 m) (hs:CT B S m ρ a.eval) {len c7:Nat} {x' i':AP} (h:BG P num o.op (.b9 (some len) c7 x' i')=true) {k:IntKind} {n:Int} {cs:List AV} (ay:ρ i' = .int k n) (hx:ρ x' = .bu cs) (h0:0<=n) (hn:n<len) :
  CY B S w0 P o a m (.val (.bu (cs.drop (n.toNat*c7)))):=by
 obtain ⟨ty,x,i,e,inf,s8,h1,h2,hi,da,fx⟩:=rK h;rcases fx with ⟨xn,hl,hu,v9⟩|⟨hl,_⟩
 ·obtain rfl:len=xn:=by simpa using hl
  obtain ⟨b,ob,u,l,hv,hR,hc,hr⟩:=vN (hx ▸ hs x x' h1);have Ak:=IH (ay ▸ hs i i' h2);refine EH hm (u := .pointer (some ⟨b,ob+n.toNat*c7,none⟩)) ?_ (.ca (.one (.bu _ b (ob+n.toNat*c7) (λ j=>u (n.toNat*c7+j)) l (λ u7=>hR (λ e=>u7 (by simp [e]))) (λ j c hj => ?_) (λ j c hj => ?_))))
  ·simp [execOp,s8,hv,Ak,Instr.indexAt,asIntOf,run_underlying hu,Instr.sureAddr,sizeOf,typeInfo,hi,da,h0,hn,H8]
  ·rw[List.getElem?_drop]at hj
   rw[Nat.add_assoc];exact hc _ c hj
  ·rw[List.getElem?_drop]at hj
   exact hr _ c hj
 ·cases hl
theorem AfD (ty e:TypeId) (inf:TypeInfo) (hu:P.underlying ty=some (.slice e)) (hi:P.info? e=some inf) (ad:Addr) (len cap:Nat) (k:IntKind) (n:Int) (h0:0<=n) (hn:n<len) (w:World) :
  (Instr.indexAt ty (.slice (some ad) len cap) (.int k n)).run P w = .ok (.pointer (some (ad.add (n.toNat*inf.size)))) w:=by
 simp [Instr.indexAt,asIntOf,run_underlying hu,sizeOf,typeInfo,hi,h0,hn]
theorem Ako (hm:BQ B S w0 m) (hs:CT B S m ρ a.eval) {c7:Nat} {x' i':AP} (h:BG P num o.op (.b9 none c7 x' i')=true) {k:IntKind} {n:Int} {s t z off len:Nat} (ay:ρ i' = .int k n) (hx:ρ x' = .row s t z off len) (h0:0<=n) (hn:n<len) (hz:z=c7) :
  CY B S w0 P o a m (.val (.ptr s t (off+n.toNat) 0)):=by
 obtain ⟨ty,x,i,e,inf,s8,h1,h2,hi,da,fx⟩:=rK h;rcases fx with ⟨_,hl,_⟩|⟨_,hu,_⟩
 ·cases hl
 ·obtain ⟨ad,cap,hv,ht,ja,si,ha,hb⟩:=jN (hx ▸ hs x x' h1)
  have Ak:=IH (ay ▸ hs i i' h2);obtain ⟨Fz,rfl⟩:=Option.isSome_iff_exists.1 (ha (by omega));refine EH hm (u := .pointer (some (Fz.add (n.toNat*c7)))) ?_ (.ca (.one (.ptr s t (off+n.toNat) 0 _ ht λ b s9 => ?_)))
  ·simp only[execOp,s8,hv,Ak,Sem.run_bind]
   rw[AfD ty e inf hu hi Fz len cap k n h0 hn,da];rfl
  ·obtain ⟨vh,fx⟩:=hb b s9
   rcases fx with ⟨ns,_⟩|⟨g,arr,e',hg,pe,_,_⟩
   ·omega
   ·obtain rfl:Fz=⟨g,off*z,none⟩:=by simpa using pe
    exact ⟨g,hg,by rw[H8,vh,<-hz,Nat.add_mul];rfl⟩
theorem Akp (hm:BQ B S w0 m) (hs:CT B S m ρ a.eval) {c7:Nat} {x' i':AP} (h:BG P num o.op (.b9 none c7 x' i')=true) {k:IntKind} {n:Int} {l:Bool} {es:List (List AV)} {cs:List AV} (ay:ρ i' = .int k n) (hx:ρ x' = .sl l es) (h0:0<=n) (hn:es[n.toNat]? = some cs) (hz:cs.length=c7) :
  CY B S w0 P o a m (.val (.bu cs)):=by
 obtain ⟨ty,x,i,e,inf,s8,h1,h2,hi,da,fx⟩:=rK h;rcases fx with ⟨_,hl,_⟩|⟨_,hu,_⟩
 ·cases hl
 ·have qg:=qM (hx ▸ hs x x' h1)
  have Ak:=IH (ay ▸ hs i i' h2);have v9:n.toNat<es.length:=(zS hn).1;generalize fq:a.eval x=v at qg;cases qg with
  | nm=>simp at v9
  | sl _ _ b ob ck cap u u7 hp hR fc ln hc hr =>
   have Ki:ck=c7:=by
    rw[<-hz];exact (ln cs (zM hn)).symm
   subst Ki;refine EH hm (u := .pointer (some ⟨b,ob+n.toNat*ck,none⟩)) ?_ (.ca (.one (.bu _ b (ob+n.toNat*ck) (u n.toNat) l (λ_=>hR) (λ j c hj => ?_) (λ j c hj=>hr _ cs hn j c hj))))
   ·simp only[execOp,s8,fq,Ak,Sem.run_bind]
    rw[AfD ty e inf hu hi ⟨b,ob,none⟩ es.length cap k n h0 (by omega),da,H8];rfl
   ·rw[Nat.add_assoc]
    exact hc _ cs hn j c hj
end
end Go.e9
namespace Go.e9
open Go.RowKit
section
variable {B:Nat} {S:Nat->Prop} {w0:World} {m:M}
variable {P:Program} {num:Nat->Nat} {o:Oper} {a:Act} {ρ:AP->AV}
theorem Og (t:TypeId) (agg:Bool) (n:Nat) (my : ∀ w,(isAgg t).run P w = .ok agg w) (hn:if agg then ∃ i,P.info? t=some i/\i.size=n else n=1) (ad:Addr) (vs:List Value) (hl:vs.length=n) (w:World)
  (hc : ∀ q v,vs[q]? = some v->w.cell? (ad.add q)=some v):(Instr.loadAt t (.pointer (some ad))).run P w = .ok (if agg then .agg vs.toArray else vs.getD 0 undef) w:=by
 unfold Instr.loadAt loadVar;simp only[Instr.sureAddr,Sem.run_bind,Sem.run_pure,Result.andThen_ok,my w];cases agg with
 | true =>
  simp only[if_true]at hn;obtain ⟨i,hi,hs⟩:=hn;have:=run_loadCells_list (P:=P) w ad vs hc
  simp [sizeOf,typeInfo,hi,hs,<-hl,this]
 | false =>
  simp only[Bool.false_eq_true,if_false]at hn ⊢;have v9:0<vs.length:=by omega
  have h0:=hc 0 vs[0] (zE v9);have Ba:w.cell? ad=some vs[0]:=by simpa [Addr.add] using h0
  simp [load,Sem.run,Ba,v9]
theorem Ae7 (hm:BQ B S w0 m) {s t i j n:Nat} {cs:List AV} (h:m.own.uj s t i j n=some cs) : ∃ b g arr e,m.own.get s t=some b/\(0<n->m.ν s t=some g/\m.w.heap[g]? = some (.cells arr e (0,0))) /\
  ∃ vs:List Value,vs.length=n/\CL B S m cs vs /\ ∀ q v,vs[q]? = some v->arr[i*b.c7+j+q]? = some v:=by
 unfold AH.uj at h;cases hb:m.own.get s t with
 | none=>simp [hb]at h
 | some b =>
  simp only[hb]at h;cases he:b.es[i]? with
  | none=>simp [he]at h
  | some ds =>
   simp only[he,part]at h;split at h
   ·rename_i hle
    obtain rfl:(ds.drop j).take n=cs:=by simpa using h
    obtain ⟨hz,jl⟩:=hm.m5 s t b hb;cases hν:m.ν s t with
    | none =>
     rw[hν]at jl;rw[jl]at he;simp at he
    | some g =>
     rw[hν]at jl;obtain ⟨hB,arr,e,hh,bq⟩:=jl;have da : ∀ q,q<n -> ∃ u,arr[i*b.c7+j+q]? = some u:=λ q hq=>by
      have v9:j+q<ds.length:=by omega
      obtain ⟨u,hu,_⟩:=bq i ds he (j+q) ds[j+q] (zE v9);exact ⟨u,by rw[<-hu];congr 1;omega⟩
     refine ⟨b,g,arr,e,rfl,λ_=>⟨rfl,hh⟩,(arr.toList.drop (i*b.c7+j)).take n,?_,⟨?_,?_⟩,?_⟩
     ·rw[List.length_take,List.length_drop]
      rcases Nat.eq_zero_or_pos n with h0|h0
      ·omega
      ·obtain ⟨u,hu⟩:=da (n-1) (by omega)
       have:=(Array.getElem?_eq_some_iff.1 hu).1
       simp;omega
     ·rw[List.length_take,List.length_take,List.length_drop,List.length_drop]
      rcases Nat.eq_zero_or_pos n with h0|h0
      ·omega
      ·obtain ⟨u,hu⟩:=da (n-1) (by omega)
       have:=(Array.getElem?_eq_some_iff.1 hu).1
       simp;omega
     ·intro q c v hq hv
      rw[List.getElem?_take]at hq hv;split at hq
      ·rename_i Jp
       rw[if_pos Jp]at hv;rw[List.getElem?_drop]at hq hv;obtain ⟨u,hu,hc⟩:=bq i ds he (j+q) c hq;have:some u=some v:=by
        rw[<-hu,<-hv];simp only[Array.getElem?_toList];congr 1;omega
       obtain rfl:u=v:=by simpa using this
       exact hc
      ·cases hq
     ·intro q v hv
      rw[List.getElem?_take]at hv;split at hv
      ·rw[List.getElem?_drop]at hv
       simpa using hv
      ·cases hv
   ·cases h
theorem qB {w:World} {g p:Nat} {arr:Array Value} {e:TypeId} (h:w.heap[g]? = some (.cells arr e (0,0))):w.cell? ⟨g,p,none⟩=arr[p]? := by
 simp [World.cell?,h]
theorem Akr (hm:BQ B S w0 m) (hs:CT B S m ρ a.eval) {agg:Bool} {n:Nat} {x':AP} (h:BG P num o.op (.ld agg n x')=true) {s t i j:Nat} {cs:List AV} {v:AV} (hx:ρ x' = .ptr s t i j) (hl:m.own.uj s t i j n=some cs) (hv:W9 agg cs=some v) :
  CY B S w0 P o a m (.val v):=by
 obtain ⟨ty,x,s8,h1,my,hn⟩:=Aeb h;obtain ⟨ad,fq,ht,hb⟩:=mE (hx ▸ hs x x' h1);obtain ⟨b,g,arr,e,ak,hg,vs,ow,z7,me⟩:=Ae7 hm hl;obtain ⟨db,_⟩:=rV hv z7;refine EH hm ?_ db;simp only[execOp,s8,Sem.run_bind,fq];rw[Og ty agg n my hn ad vs ow m.w (λ q u hq => ?_)]
 ·rfl
 ·have v9:q<vs.length:=(zS hq).1
  obtain ⟨Fb,oh⟩:=hg (by omega);obtain ⟨g',js,rfl⟩:=hb b ak;obtain rfl:g=g':=by rw[Fb]at js;simpa using js
  rw[H8,qB oh];exact me q u hq
theorem Akq (hm:BQ B S w0 m) (hs:CT B S m ρ a.eval) {agg:Bool} {n:Nat} {x':AP} (h:BG P num o.op (.ld agg n x')=true) {cs ds:List AV} {v:AV} (hx:ρ x' = .bu cs) (hl:part cs 0 n=some ds) (hv:W9 agg ds=some v) :
  CY B S w0 P o a m (.val v):=by
 obtain ⟨ty,x,s8,h1,my,hn⟩:=Aeb h;obtain ⟨b,ob,u,l,fq,hR,hc,hr⟩:=vN (hx ▸ hs x x' h1);unfold e9.part at hl;split at hl
 ·rename_i hle
  obtain rfl:(cs.drop 0).take n=ds:=by simpa using hl
  have z7:CL B S m ((cs.drop 0).take n) ((List.range n).map u):=by
   refine ⟨by simp;omega,λ q c v' hq te => ?_⟩;simp only[List.drop_zero,List.getElem?_take]at hq;split at hq
   ·rename_i Jp
    simp [Jp]at te;subst te;exact .rd (hr q c hq)
   ·cases hq
  obtain ⟨db,_⟩:=rV hv z7;refine EH hm ?_ db;simp only[execOp,s8,Sem.run_bind,fq];rw[Og ty agg n my hn ⟨b,ob,none⟩ ((List.range n).map u) (by simp) m.w (λ q w' hq => ?_)]
  ·rfl
  ·have Jp:q<n:=by have:=(zS hq).1;simpa using this
   simp [Jp]at hq;subst hq;rw[H8];exact hc q cs[q] (zE (by omega))
 ·cases hl
theorem Mu {α:Type} (l:List α) (off:Nat) (vs:List α) (h:off+vs.length<=l.length) (q:Nat):(l.take off++vs++l.drop (off+vs.length))[q]? = if q<off then l[q]? else if q<off+vs.length then vs[q-off]? else l[q]? := by
 rw[List.append_assoc];by_cases h1:q<off
 ·rw[if_pos h1,List.getElem?_append_left (by simp;omega),List.getElem?_take,if_pos h1]
 ·rw[if_neg h1,List.getElem?_append_right (by simp;omega)]
  have e1:(l.take off).length=off:=by simp;omega
  rw[e1];by_cases h2:q<off+vs.length
  ·rw[if_pos h2,List.getElem?_append_left (by omega)]
  ·rw[if_neg h2,List.getElem?_append_right (by omega),List.getElem?_drop]
   congr 1;omega
theorem Vt (hm:BQ B S w0 m) {g:Nat} (hB:B<=g) (arr:Array Value):Below B w0 (m.w.setRow g arr) :=
 hm.below.trans ⟨rfl,rfl,rfl,by simp,λ k hk=>setRow_other _ _ _ _ (by omega)⟩
theorem Acv (hm:BQ B S w0 m) (hs:CT B S m ρ a.eval) {n:Nat} {x' v':AP} (h:BG P num o.op (.st n x' v')=true) {s t i j:Nat} {vs:List AV} {w8:AH} (hx:ρ x' = .ptr s t i j) (hv:cellsOf (ρ v')=some vs) (hn:vs.length=n) (o9:m.own.pz s t i j vs=some w8) :
  CY B S w0 P o a m (.jc (.m9 []) w8):=by
 obtain ⟨ty,x,v,inf,s8,h1,h2,hi,da⟩:=AnT h;obtain ⟨ad,fq,ht,hb⟩:=mE (hx ▸ hs x x' h1);have z7:=qL (hs v v' h2) hv;unfold AH.pz at o9;cases ak:m.own.get s t with
 | none=>simp [ak]at o9
 | some b =>
  simp only[ak]at o9;cases he:b.es[i]? with
  | none=>simp [he]at o9
  | some cs =>
   simp only[he]at o9;split at o9
   ·rename_i hle
    obtain rfl:=Option.some.inj o9;obtain ⟨hz,jl⟩:=hm.m5 s t b ak;obtain ⟨g,hg,rfl⟩:=hb b ak;rw[hg]at jl;obtain ⟨hB,arr,e,hh,bq⟩:=jl;have Qz:cs.length=b.c7:=hz cs (zM he);have hlen:(a.eval v).cells.toList.length=vs.length:=z7.1.symm;have eb:i<b.es.length:=(zS he).1;have Fi:i*b.c7+j+vs.length<=arr.size:=by
     rcases Nat.eq_zero_or_pos vs.length with h0|h0
     ·rcases Nat.eq_zero_or_pos j with Lp|Lp
      ·rw[h0,Lp]
       rcases Nat.eq_zero_or_pos i with vo|vo
       ·rw[vo];omega
       ·rcases Nat.eq_zero_or_pos b.c7 with ja|ja
        ·rw[ja];omega
        ·have hi1:i-1<b.es.length:=by omega
         have oo:(b.es[i-1]).length=b.c7:=hz _ (List.getElem_mem hi1);obtain ⟨u,hu,_⟩:=bq (i-1) _ (zE hi1) (b.c7-1) _ (zE (by omega));have:=(Array.getElem?_eq_some_iff.1 hu).1
         have e1:(i-1)*b.c7+b.c7=i*b.c7:=by
          rw[<-Nat.succ_mul];congr 1;omega
         omega
      ·obtain ⟨u,hu,_⟩:=bq i cs he (j-1) cs[j-1] (zE (by omega))
       have:=(Array.getElem?_eq_some_iff.1 hu).1
       omega
     ·obtain ⟨u,hu,_⟩:=bq i cs he (j+vs.length-1) cs[j+vs.length-1] (zE (by omega))
      have:=(Array.getElem?_eq_some_iff.1 hu).1
      omega
    have pq:=Ai4 z7;have zp:=run_storeCells_at (P:=P) g (i*b.c7+j) e (a.eval v).cells.toList 0 arr m.w hh (by rw[hlen];omega) pq;generalize ql:(arr.toList.take (i*b.c7+j+0)++(a.eval v).cells.toList++arr.toList.drop (i*b.c7+j+0+(a.eval v).cells.toList.length)).toArray=cj at zp;have Cs : ∀ p,cj[p]? = if p<i*b.c7+j then arr[p]? else if p<i*b.c7+j+vs.length then (a.eval v).cells.toList[p-(i*b.c7+j)]? else arr[p]? := λ p=>by
     rw[<-ql];simp only[Nat.add_zero,List.getElem?_toArray];rw[Mu _ _ _ (by rw[hlen];simpa using Fi),hlen];simp only[Array.getElem?_toList]
    have uf:cj.size=arr.size:=by
     rw[<-ql];simp [hlen];have:=hlen
     simp at this;omega
    obtain ⟨k1,k2⟩:=AqA hm s t b ⟨b.c7,b.es.set i (splice cs j vs)⟩ ak g hg arr cj e hh rfl (λ y hy=>by
      rcases List.mem_or_eq_of_mem_set hy with hy|hy
      ·exact hz y hy
      ·rw[hy,<-Qz];simp [splice];omega) uf
     (λ i' jq ay q c hq=>by
      show ∃ u,cj[i'*b.c7+q]? = some u/\_;change (b.es.set i (splice cs j vs))[i']? = some jq at ay;by_cases hii:i'=i
      ·subst hii
       rw[List.getElem?_set_self eb]at ay;obtain rfl:splice cs j vs=jq:=by simpa using ay
       unfold splice at hq;rw[Mu _ _ _ hle]at hq;rw[Cs];by_cases Bv:q<j
       ·rw[if_pos Bv]at hq
        rw[if_pos (by omega)];exact bq i' cs he q c hq
       ·rw[if_neg Bv]at hq
        rw[if_neg (by omega)];by_cases Ap:q<j+vs.length
        ·rw[if_pos Ap]at hq
         rw[if_pos (by omega)];obtain ⟨u,hu,kj⟩:=jL z7 hq;exact ⟨u,by rw[<-hu];congr 1;omega,kj⟩
        ·rw[if_neg Ap]at hq
         rw[if_neg (by omega)];exact bq i' cs he q c hq
      ·rw[List.getElem?_set_ne (by omega)]at ay
       have Jo:q<b.c7:=by
        rw[<-hz jq (zM ay)];exact (zS hq).1
       obtain ⟨u,hu,kj⟩:=bq i' jq ay q c hq;refine ⟨u,?_,kj⟩;rw[Cs,<-hu];rcases Nat.lt_or_gt_of_ne hii with v9|wv
       ·have:(i'+1)*b.c7<=i*b.c7:=Nat.mul_le_mul_right _ v9
        rw[Nat.succ_mul]at this;rw[if_pos (by omega)]
       ·have:(i+1)*b.c7<=i'*b.c7:=Nat.mul_le_mul_right _ wv
        rw[Nat.succ_mul]at this;rw[if_neg (by omega),if_neg (by omega)])
     (m.w.setRow g cj) (Vt hm hB cj) (by simp) (λ k hk=>setRow_other _ _ _ _ hk) (setRow_heap _ _ _ _ _ _ hh)
    intro K Q hK;refine AqU (w':=m.w.setRow g cj) ?_ (hK undef ⟨m.ν,_,m.w.setRow g cj⟩ rfl k1 k2 AeB);have Ti:(a.eval v).cells.size=inf.size:=by rw[da,<-hn,<-hlen];simp
    simp only[execOp,s8,fq,Instr.storeAt,storeVar,Instr.sureAddr,Sem.run_bind,Sem.run_pure,Result.andThen_ok,sizeOf,typeInfo,run_program,hi];rw[if_neg (by simpa using Ti)];simp only[Sem.run_bind,Sem.run_pure,Result.andThen_ok,zp]
   ·cases o9
theorem Akt (hm:BQ B S w0 m) (hs:CT B S m ρ a.eval) {s c7 bytes:Nat} {zero:List AV} {l' c':AP} (h:BG P num o.op (.mk s c7 bytes zero l' c')=true) {kl kc:IntKind} {l c:Int} (hl:ρ l' = .int kl l) (hc:ρ c' = .int kc c) (h0:0<=l) (si:l<=c) (hb:c*bytes<=DX) (Gb:c<=9223372036854775807) (hz:zero.length=c7) :
  CY B S w0 P o a m (.new s ⟨c7,List.replicate l.toNat zero⟩ (λ t => .row s t c7 0 l.toNat)):=by
 obtain ⟨ty,lx,cx,e,inf,z,s8,h1,h2,hu,hi,da,rz,ja,ln,u7⟩:=AnK h;have el:=IH (hl ▸ hs lx l' h1);have ec:=IH (hc ▸ hs cx c' h2);have z7:CL B S m zero z.cells.toList:=jR ln;have hzs:z.cells.size=c7:=by rw[<-hz,z7.1];simp
 refine Acu hm s c7 l.toNat c.toNat _ (madeCells z.cells (c.toNat*inf.size)) e (Nat.pos_of_ne_zero u7) (by omega) (by rw[size_madeCells,da];exact Nat.le_refl _) (λ x hx=>by rw[(List.mem_replicate.1 hx).2,hz]) (λ i cs ay j c1 hj => ?_) ?_
 ·rw[List.getElem?_replicate]at ay
  split at ay
  ·rename_i eb
   obtain rfl:zero=cs:=by simpa using ay
   obtain ⟨u,pt,kj⟩:=jL z7 hj;refine ⟨u,?_,kj⟩;have iq:j<c7:=by rw[<-hz];exact (zS hj).1
   have v9:i*c7+j<c.toNat*inf.size:=by
    rw[da];have h3:(i+1)*c7<=c.toNat*c7:=Nat.mul_le_mul_right _ (by omega);rw[Nat.succ_mul]at h3;omega
   have Sb:(i*c7+j)%z.cells.size=j:=by rw[hzs,Nat.add_comm,Nat.add_mul_mod_self_right,Nat.mod_eq_of_lt iq]
   have Ha:z.cells[j]? = some u:=by simpa using pt
   have hjs:j<z.cells.size:=(Array.getElem?_eq_some_iff.1 Ha).1;have lg:z.cells[j]=u:=(Array.getElem?_eq_some_iff.1 Ha).2;simp [madeCells,v9,Sb,hjs,lg]
  ·cases ay
 ·have:=run_make (P:=P) m.w ty e inf z hu hi ja kl kc l c h0 si (by rw[rz,Int.mul_comm];simp only[DX]at hb;omega) Gb
  simp only[execOp,s8,el,ec,Sem.run_bind,this,Result.andThen_ok,Sem.run_pure]
theorem Aki (hm:BQ B S w0 m) (hs:CT B S m ρ a.eval) {x':AP} {i:Nat} (h:BG P num o.op (.ext x' i)=true) {vs:List AV} {v:AV} (hx:ρ x' = .m9 vs) (hv:vs[i]? = some v):CY B S w0 P o a m (.val v):=by
 obtain ⟨x,s8,h1⟩:=AnF h;obtain ⟨us,fq,hl,hc⟩:=vP (hx ▸ hs x x' h1);have v9:i<us.length:=by rw[<-hl];exact (zS hv).1
 refine EH hm (u:=us[i]) ?_ (.ca (hc i v us[i] hv (zE v9)));simp [execOp,s8,fq,Instr.extract,v9]
theorem Aks (hm:BQ B S w0 m) (hs:CT B S m ρ a.eval) {x':AP} (h:BG P num o.op (.len x')=true) {n:Nat} (hx:dD (ρ x')=some n):CY B S w0 P o a m (.val (.int .i64 n)):=by
 obtain ⟨x,t,e,s8,h1,hu⟩:=AnJ h;have db:=hs x x' h1;obtain ⟨ad,cap,fq⟩ : ∃ ad cap,a.eval x = .slice ad n cap:=by
  generalize ρ x'=av at *;cases av with
  | sl l es =>
   have hr:=qM db;simp only[dD,Option.some.injEq]at hx;subst hx;generalize a.eval x=v at *;cases hr with
   | nm=>exact ⟨_,_,rfl⟩
   | sl=>exact ⟨_,_,rfl⟩
  | row s t z off len =>
   obtain ⟨ad,cap,hv,_⟩:=jN db;simp only[dD,Option.some.injEq]at hx;subst hx;exact ⟨ad,cap,hv⟩
  | nil =>
   simp only[dD,Option.some.injEq]at hx;subst hx;exact ⟨_,_,eA db⟩
  | _=>simp [dD]at hx
 refine EH hm (u := .int .i64 n) ?_ (dG _ _);simp [execOp,s8,resolve,invoke,builtin,fq,Builtin.len_,run_underlying hu,goInt]
theorem Akg (hm:BQ B S w0 m) (hs:CT B S m ρ a.eval) {x':AP} (h:BG P num o.op (.ju x')=true) (hx:ρ x' = .nil):CY B S w0 P o a m (.val (.int .i64 0)):=by
 obtain ⟨x,t,e,s8,h1,hu⟩:=AnD h;have fq:=eA (hx ▸ hs x x' h1);refine EH hm (u := .int .i64 0) ?_ (dG _ _);simp [execOp,s8,resolve,invoke,builtin,fq,Builtin.cap_,run_underlying hu,goInt]
theorem gP (hs:CT B S m ρ a.eval) : ∀ {xs:List Operand} {ys:List AP},EI xs ys=true->xs.length=ys.length /\ ∀ (j:Nat) (x:Operand) (y:AP),xs[j]? = some x->ys[j]? = some y->CV B S m (ρ y) (a.eval x)
 | [],[],_=>⟨rfl,λ j x y h=>by simp at h⟩
 | x::r,y::l,h=>by
  simp only[EI,Bool.and_eq_true]at h;obtain ⟨ih1,ti⟩:=gP hs h.2;refine ⟨by simp [ih1],λ j x' y' hx hy => ?_⟩;cases j with
  | zero=>simp at hx hy;subst hx hy;exact hs _ _ h.1
  | succ j=>exact ti j x' y' (by simpa using hx) (by simpa using hy)
 | [],_::_,h=>by simp [EI]at h
 | _::_,[],h=>by simp [EI]at h
theorem AfE (mx:Bool) (hs:CT B S m ρ a.eval) (w:World) : ∀ (xs:List Operand) (ys:List AP) (v:AV) (u:Value) (r:AV),EI xs ys=true->CV B S m v u->WN mx v (ys.map ρ)=some r->(∃ k n,v = .int k n) -> ∃ k n,r = .int k n /\
  ((xs.map a.eval).foldlM (if mx then Builtin.max2 else Builtin.min2) u).run P w = .ok (.int k n) w
 | [],[],v,u,r,_,hc,hm,⟨k,n,hv⟩=>by
  simp only[List.map_nil,WN,Option.some.injEq]at hm;subst hm hv;obtain rfl:=IH hc;exact ⟨k,n,rfl,by simp⟩
 | x::xr,y::yr,v,u,r,he,hc,hm,⟨k,n,hv⟩=>by
  simp only[EI,Bool.and_eq_true]at he;simp only[List.map_cons,WN]at hm;have hx:=hs x y he.1;subst hv;obtain rfl:=IH hc;cases hy:ρ y with
  | int k' n' =>
   rw[hy]at hx hm;have hxe:=IH hx;simp only[dH]at hm;obtain ⟨k2,n2,rfl,h2⟩:=AfE mx hs w xr yr _ (.int k (if mx then (if n'>n then n' else n) else (if n'<n then n' else n))) r he.2 (dG _ _) hm ⟨_,_,rfl⟩;refine ⟨k2,n2,rfl,?_⟩;simp only[List.map_cons,List.foldlM_cons,Sem.run_bind,hxe];cases mx
   ·simpa [Builtin.min2] using h2
   ·simpa [Builtin.max2] using h2
  | _=>rw[hy]at hm;simp [dH]at hm
 | [],_::_,_,_,_,he,_,_,_=>by simp [EI]at he
 | _::_,[],_,_,_,he,_,_,_=>by simp [EI]at he
theorem AkQ (hm:BQ B S w0 m) (hs:CT B S m ρ a.eval) {mx:Bool} {ag:List AP} (h:BG P num o.op (.mm mx ag)=true) {v r:AV} {l:List AV} (hx:ag.map ρ=v::l) (hv:WN mx v l=some r) (hi : ∃ k n,v = .int k n):CY B S w0 P o a m (.val r):=by
 obtain ⟨xs,ts,s8,he⟩:=Aec h;cases ag with
 | nil=>simp at hx
 | cons y yr =>
  simp only[List.map_cons,List.cons.injEq]at hx;obtain ⟨rfl,rfl⟩:=hx;obtain ⟨xl⟩:=xs;cases xl with
  | nil=>simp [EI]at he
  | cons x xr =>
   simp only[EI,Bool.and_eq_true]at he;obtain ⟨k,n,rfl,bf⟩:=AfE (P:=P) mx hs m.w xr yr (ρ y) (a.eval x) r he.2 (hs x y he.1) hv hi;refine EH hm (u := .int k n) ?_ (dG _ _);cases mx
   ·simp only[execOp,s8,resolve,invoke,builtin,Builtin.min_,Sem.run_bind,Sem.run_pure,Result.andThen_ok]at bf ⊢
    simp at bf ⊢;rw[bf];rfl
   ·simp only[execOp,s8,resolve,invoke,builtin,Builtin.max_,Sem.run_bind,Sem.run_pure,Result.andThen_ok]at bf ⊢
    simp at bf ⊢;rw[bf];rfl
end
end Go.e9

namespace Go.e9
open Go.RowKit
section
variable {B:Nat} {S:Nat->Prop} {w0:World} {m:M}
variable {P:Program} {num:Nat->Nat} {o:Oper} {a:Act} {ρ:AP->AV}
def IE (ρ:AP->AV) (d:Nat):Option AP->Option Int
 | none=>some d
 | some y=>match ρ y with | .int _ n=>some n|_=>none
theorem sX (ty e:TypeId) (inf:TypeInfo) (hu:P.underlying ty=some (.slice e)) (hi:P.info? e=some inf) (hs:CT B S m ρ a.eval) {lo ay:Option Operand} {tj Is:Option AP} (sj:bU lo tj=true) (Ln:bU ay Is=true)
  (ad:Option Addr) (len cap:Nat) (l h:Int) (hl:IE ρ 0 tj=some l) (hh:IE ρ len Is=some h) (h0:0<=l) (hlh:l<=h) (hhl:h<=len) (si:len<=cap) (w:World) :
  (Instr.sliceAt ty (.slice ad len cap) (lo.map a.eval) (ay.map a.eval) none).run P w = .ok (.slice (if cap=l.toNat then ad else ad.map (·.add (l.toNat*inf.size))) (h.toNat-l.toNat) (cap-l.toNat)) w:=by
 have Ak : ∀ {x:Option Operand} {y:Option AP} {d:Nat} {n:Int},bU x y=true->IE ρ d y=some n->(x=none/\y=none/\n=d) \/ ∃ x' k,x=some x'/\a.eval x' = .int k n:=by
  intro x y d n ye hb;cases x with
  | none=>cases y with
   | none=>simp [IE]at hb;exact .inl ⟨rfl,rfl,hb.symm⟩
   | some y=>simp [bU]at ye
  | some x=>cases y with
   | none=>simp [bU]at ye
   | some y =>
    simp only[bU]at ye;simp only[IE]at hb;cases hy:ρ y with
    | int k q =>
     rw[hy]at hb;simp only[Option.some.injEq]at hb;subst hb;exact .inr ⟨x,k,rfl,IH (hy ▸ hs x y ye)⟩
    | _=>rw[hy]at hb;cases hb
 have Ct:h<=(cap:Int):=by omega
 unfold Instr.sliceAt Instr.slice Instr.sliceBounds;rcases Ak sj hl with ⟨rfl,_,rfl⟩|⟨x1,k1,rfl,e1⟩<;>rcases Ak Ln hh with ⟨rfl,_,rfl⟩|⟨x2,k2,rfl,e2⟩
 ·simp [run_underlying hu,sizeOf,typeInfo,hi]
 ·have xv:=run_sliceBound (P:=P) w k2 h cap .sliceAcap (by omega) Ct
  simp [run_underlying hu,sizeOf,typeInfo,hi,e2,xv]
 ·have bn:=run_sliceBound (P:=P) w k1 l len .sliceB h0 (by omega)
  simp [run_underlying hu,sizeOf,typeInfo,hi,e1,bn]
 ·have xv:=run_sliceBound (P:=P) w k2 h cap .sliceAcap (by omega) Ct
  have bn:=run_sliceBound (P:=P) w k1 l h.toNat .sliceB h0 (by omega);simp [run_underlying hu,sizeOf,typeInfo,hi,e1,e2,xv,bn]
theorem AkU (hm:BQ B S w0 m) (hs:CT B S m ρ a.eval) {c7:Nat} {x':AP} {tj ay:Option AP} (h:BG P num o.op (.ke c7 x' tj ay)=true) (hx:ρ x' = .nil) (hl:IE ρ 0 tj=some 0) (hh:IE ρ 0 ay=some 0):CY B S w0 P o a m (.val .nil):=by
 obtain ⟨ty,x,lo,xx,e,inf,s8,h1,h2,h3,hu,hi,da,u7⟩:=yS h;have fq:=eA (hx ▸ hs x x' h1);have bf:=sX ty e inf hu hi hs h2 h3 none 0 0 0 0 hl hh (by omega) (by omega) (by omega) (by omega) m.w;refine EH hm (u := .slice none 0 0) ?_ (.ca (.one .nil));simp only[execOp,s8,fq,Sem.run_bind,Option.map_none,bf];rfl
theorem AkV (hm:BQ B S w0 m) (hs:CT B S m ρ a.eval) {c7:Nat} {x':AP} {tj ay:Option AP} (h:BG P num o.op (.ke c7 x' tj ay)=true) {s t z off len:Nat} {l u:Int} (hx:ρ x' = .row s t z off len) (hl:IE ρ 0 tj=some l) (hh:IE ρ len ay=some u) (h0:0<=l) (Lr:l<=u) (lg:u<=len) (hz:z=c7) :
  CY B S w0 P o a m (.val (.row s t z (off+l.toNat) (u.toNat-l.toNat))):=by
 obtain ⟨ty,x,lo,xx,e,inf,s8,h1,h2,h3,hu,hi,da,u7⟩:=yS h;obtain ⟨ad,cap,fq,ht,ja,si,ha,hb⟩:=jN (hx ▸ hs x x' h1);have bf:=sX ty e inf hu hi hs h2 h3 ad len cap l u hl hh h0 Lr lg si m.w;refine EH hm ?_ (.ca (.one (.row s t z (off+l.toNat) (u.toNat-l.toNat) (if cap=l.toNat then ad else ad.map (·.add (l.toNat*inf.size))) (cap-l.toNat) ht ja (by omega) (λ hp => ?_) λ b s9 => ?_)))
 ·simp only[execOp,s8,fq,Sem.run_bind,Option.map_none,bf]
  rfl
 ·rw[if_neg (by omega)]
  obtain ⟨Fz,rfl⟩:=Option.isSome_iff_exists.1 (ha (by omega));rfl
 ·obtain ⟨vh,fx⟩:=hb b s9
  refine ⟨vh,?_⟩;rcases fx with ⟨ns,gx⟩|⟨g,arr,e',hg,pe,Lm,hle⟩
  ·exact .inl ⟨by omega,by omega⟩
  ·by_cases hc:cap=l.toNat
   ·exact .inl ⟨by omega,by omega⟩
   ·refine .inr ⟨g,arr,e',hg,?_,Lm,?_⟩
    ·rw[if_neg hc,pe,da,hz]
     simp only[Option.map_some,H8,Nat.add_mul]
    ·rw[show off+l.toNat+(cap-l.toNat)=off+cap by omega]
     exact hle
theorem AkW (hm:BQ B S w0 m) (hs:CT B S m ρ a.eval) {c7:Nat} {x':AP} {tj ay:Option AP} (h:BG P num o.op (.ke c7 x' tj ay)=true) {lt:Bool} {es:List (List AV)} {l u:Int} (hx:ρ x' = .sl lt es) (hl:IE ρ 0 tj=some l) (hh:IE ρ es.length ay=some u) (h0:0<=l) (Lr:l<=u) (lg:u<=es.length) (hz : ∀ e∈es,e.length=c7) :
  CY B S w0 P o a m (.val (.sl lt ((es.take u.toNat).drop l.toNat))):=by
 obtain ⟨ty,x,lo,xx,e,inf,s8,h1,h2,h3,hu,hi,da,u7⟩:=yS h;have qg:=qM (hx ▸ hs x x' h1);generalize fq:a.eval x=v at qg;cases qg with
 | nm _ ad cap =>
  have bf:=sX ty e inf hu hi hs h2 h3 ad 0 cap l u hl hh h0 Lr (by simpa using lg) (by omega) m.w;simp only[List.length_nil]at lg;rw[show (([]:List (List AV)).take u.toNat).drop l.toNat=[] by simp];refine EH hm (u := .slice (if cap=l.toNat then ad else ad.map (·.add (l.toNat*inf.size))) 0 (cap-l.toNat)) ?_ (.ca (.one (.rd (.nm lt _ _))));simp only[execOp,s8,fq,Sem.run_bind,Option.map_none,bf];rw[show u.toNat-l.toNat=0 by omega];rfl
 | sl _ _ b ob ck cap uu zi hp hR fc ln hc hr =>
  have bf:=sX ty e inf hu hi hs h2 h3 (some ⟨b,ob,none⟩) es.length cap l u hl hh h0 Lr lg fc m.w;have Ki:ck=c7:=by
   cases es with
   | nil=>exact absurd rfl zi
   | cons q r=>rw[<-ln q (by simp),hz q (by simp)]
  subst Ki;by_cases ja:u.toNat-l.toNat=0
  ·have:(es.take u.toNat).drop l.toNat=[]:=by
    apply List.eq_nil_of_length_eq_zero;simp;omega
   rw[this];refine EH hm (u := .slice (if cap=l.toNat then some ⟨b,ob,none⟩ else (some (⟨b,ob,none⟩:Addr)).map (·.add (l.toNat*inf.size))) 0 (cap-l.toNat)) ?_ (.ca (.one (.rd (Rd.nm lt _ _))));simp only[execOp,s8,fq,Sem.run_bind,Option.map_none,bf];rw[ja];rfl
  ·have hlen:((es.take u.toNat).drop l.toNat).length=u.toNat-l.toNat:=by simp;omega
   have ak : ∀ i,i<u.toNat-l.toNat->((es.take u.toNat).drop l.toNat)[i]? = es[l.toNat+i]? := λ i ay=>by
    rw[List.getElem?_drop,List.getElem?_take,if_pos (by omega)]
   refine EH hm (u := .slice (some ⟨b,ob+l.toNat*ck,none⟩) ((es.take u.toNat).drop l.toNat).length (cap-l.toNat)) ?_ (.ca (.one (.rd (.sl lt _ b (ob+l.toNat*ck) ck (cap-l.toNat) (λ i j=>uu (l.toNat+i) j) (λ e=>ja (by rw[<-hlen,e];rfl)) hp hR (by rw[hlen];omega) (λ q hq=>ln q (List.mem_of_mem_take (List.mem_of_mem_drop hq))) (λ i q ay j c hj => ?_) (λ i q ay j c hj => ?_)))))
   ·simp only[execOp,s8,fq,Sem.run_bind,Option.map_none,bf]
    rw[if_neg (by omega),hlen,da];simp only[Option.map_some,H8];rfl
   ·have eb:i<u.toNat-l.toNat:=by rw[<-hlen];exact (zS ay).1
    rw[ak i eb]at ay;rw[show ob+l.toNat*ck+(i*ck+j)=ob+((l.toNat+i)*ck+j) by rw[Nat.add_mul];omega];exact hc _ q ay j c hj
   ·have eb:i<u.toNat-l.toNat:=by rw[<-hlen];exact (zS ay).1
    rw[ak i eb]at ay;exact hr _ q ay j c hj
structure lG (B:Nat) (S:Nat->Prop) (m:M) (c7:Nat) (ys:List (List AV)) (ad:Option Addr) (news:List Value):Prop where
 len:news.length=ys.length*c7
 cells : ∀ b,ad=some b -> ∀ j v,news[j]? = some v->m.w.cell? (b.add j)=some v
 some_:ys≠[]->ad.isSome=true
 rel : ∀ i cs,ys[i]? = some cs -> ∀ j c,cs[j]? = some c -> ∃ u,news[i*c7+j]? = some u/\CC B S m c u
theorem AjV (c7 i j:Nat) (h:j<c7):(i*c7+j)/c7=i/\(i*c7+j)%c7=j:=by
 constructor
 ·rw[Nat.add_comm,Nat.add_mul_div_right _ _ (by omega),Nat.div_eq_of_lt h,Nat.zero_add]
 ·rw[Nat.add_comm,Nat.add_mul_mod_self_right,Nat.mod_eq_of_lt h]
theorem wL (hm:BQ B S w0 m) {av:AV} {v:Value} (hc:CV B S m av v) {ys:List (List AV)} (he:ET m.own av=some ys) {c7:Nat} (hz : ∀ e∈ys,e.length=c7) (h0:0<c7) :
  ∃ ad cap news,v = .slice ad ys.length cap/\lG B S m c7 ys ad news:=by
 cases av with
 | sl l es =>
  simp only[ET,Option.some.injEq]at he;subst he;cases qM hc with
  | nm _ ad cap=>exact ⟨ad,cap,[],rfl,by simp,λ b _ j v hv=>by simp at hv,λ h=>absurd rfl h,λ i cs hi=>by simp at hi⟩
  | sl _ _ b ob ck cap uu zi hp hR fc ln z7 hr =>
   have Ki:ck=c7:=by
    cases es with
    | nil=>exact absurd rfl zi
    | cons q r=>rw[<-ln q (by simp),hz q (by simp)]
   subst Ki;refine ⟨some ⟨b,ob,none⟩,cap,(List.range (es.length*ck)).map (λ k=>uu (k/ck) (k%ck)),rfl,by simp,λ b' s9 j v hv => ?_,λ_=>rfl,λ i cs hi j c hj => ?_⟩
   ·obtain rfl:(⟨b,ob,none⟩:Addr)=b':=by simpa using s9
    rw[List.getElem?_map]at hv;have iq:j<es.length*ck:=by
     rcases Nat.lt_or_ge j (es.length*ck) with h|h
     ·exact h
     ·rw[List.getElem?_eq_none (by simpa using h)]at hv;cases hv
    rw[List.getElem?_range iq]at hv;simp only[Option.map_some,Option.some.injEq]at hv;subst hv;have hd:j/ck<es.length:=Nat.div_lt_of_lt_mul (by rw[Nat.mul_comm];exact iq);have Sa:j%ck<ck:=Nat.mod_lt _ h0;have jr:(es[j/ck]).length=ck:=ln _ (List.getElem_mem hd);have:=z7 (j/ck) _ (zE hd) (j%ck) _ (zE (by rw[jr];exact Sa))
    rw[H8,<-this];congr 2;have:=Nat.div_add_mod j ck
    rw[Nat.mul_comm]at this;omega
   ·have iq:j<ck:=by rw[<-ln cs (zM hi)];exact (zS hj).1
    have eb:i<es.length:=(zS hi).1;have v9:i*ck+j<es.length*ck:=by
     have:(i+1)*ck<=es.length*ck:=Nat.mul_le_mul_right _ eb
     rw[Nat.succ_mul]at this;omega
    obtain ⟨e1,e2⟩:=AjV ck i j iq;refine ⟨uu i j,?_,.rd (hr i cs hi j c hj)⟩;rw[List.getElem?_map,List.getElem?_range v9];simp [e1,e2]
 | nil =>
  simp only[ET,Option.some.injEq]at he;subst he;exact ⟨none,0,[],eA hc,by simp,λ b hb=>(by cases hb),λ h=>absurd rfl h,λ i cs hi=>by simp at hi⟩
 | row s t z off len =>
  obtain ⟨ad,cap,hv,ht,ja,si,ha,hb⟩:=jN hc;simp only[ET]at he;cases ak:m.own.get s t with
  | none=>simp [ak]at he
  | some b =>
   simp only[ak]at he;split at he
   ·rename_i hle
    obtain ⟨hle,vh⟩:=hle;obtain rfl:=Option.some.inj he;have zu:((b.es.drop off).take len).length=len:=by simp;omega
    obtain ⟨_,fx⟩:=hb b ak;by_cases ns:len=0
    ·subst ns
     refine ⟨ad,cap,[],by simpa using hv,by simp,λ b _ j v hv=>by simp at hv,λ h=>absurd (by simp) h,λ i cs hi=>by simp at hi⟩
    ·rcases fx with ⟨h1,_⟩|⟨g,arr,e',hg,pe,Lm,AFJ⟩
     ·exact absurd h1 ns
     ·obtain ⟨ln,jl⟩:=hm.m5 s t b ak
      rw[hg]at jl;obtain ⟨hB,yh,e2,Cz,bq⟩:=jl;rw[Lm]at Cz;obtain ⟨rfl,rfl⟩:arr=yh/\e'=e2:=by simpa using Cz
      have hez:c7=z:=by
       have v9:off<b.es.length:=by omega
       have h1:b.es[off]∈(b.es.drop off).take len:=by
        have:((b.es.drop off).take len)[0]? = some b.es[off]:=by
         rw[List.getElem?_take,if_pos (by omega),List.getElem?_drop];simp [v9]
        exact zM this
       rw[<-hz _ h1,ln _ (List.getElem_mem v9),vh]
      subst hez;have da:off*c7+len*c7<=arr.size:=by
       have:(off+len)*c7<=(off+cap)*c7:=Nat.mul_le_mul_right _ (by omega)
       rw[Nat.add_mul]at this;omega
      refine ⟨ad,cap,(arr.toList.drop (off*c7)).take (len*c7),by rw[zu];exact hv,by rw[zu];simp;omega,λ b' s9 j v te => ?_,λ_=>by rw[pe];rfl,λ i cs hi j c hj => ?_⟩
      ·rw[pe]at s9
       obtain rfl:(⟨g,off*c7,none⟩:Addr)=b':=by simpa using s9
       rw[List.getElem?_take]at te;split at te
       ·rw[List.getElem?_drop]at te
        rw[H8,qB Lm];simpa using te
       ·cases te
      ·rw[List.getElem?_take]at hi
       split at hi
       ·rename_i eb
        rw[List.getElem?_drop]at hi;have iq:j<c7:=by rw[<-vh,<-ln cs (zM hi)];exact (zS hj).1
        obtain ⟨u,hu,kj⟩:=bq (off+i) cs hi j c hj;refine ⟨u,?_,kj⟩;have v9:i*c7+j<len*c7:=by
         have:(i+1)*c7<=len*c7:=Nat.mul_le_mul_right _ eb
         rw[Nat.succ_mul]at this;omega
        rw[List.getElem?_take,if_pos v9,List.getElem?_drop,<-hu,vh];simp only[Array.getElem?_toList];congr 1;rw[Nat.add_mul];omega
       ·cases hi
   ·cases he
 | ib v' =>
  cases v' with
  | bool b =>
   simp only[ET,Option.some.injEq]at he;subst he;obtain ⟨ad,cap,hv,_⟩:=Vm hc;exact ⟨ad,cap,[],hv,by simp,λ b' s9 j v te=>by simp at te,λ h=>absurd rfl h,λ i cs hi=>by simp at hi⟩
  | _=>simp [ET]at he
 | _=>simp [ET]at he
theorem lG.one {c7:Nat} {ys:List (List AV)} {ad:Option Addr} {news:List Value} (h:lG B S m c7 ys ad news) (h0:0<c7) (hz : ∀ e∈ys,e.length=c7) : ∀ u∈news,u.oneCell'=true:=by
 intro u hu;obtain ⟨k,hk,rfl⟩:=List.getElem_of_mem hu;rw[h.len]at hk;have hd:k/c7<ys.length:=Nat.div_lt_of_lt_mul (by rw[Nat.mul_comm];exact hk);have Sa:k%c7<c7:=Nat.mod_lt _ h0;have jr:(ys[k/c7]).length=c7:=hz _ (List.getElem_mem hd);obtain ⟨u',pt,hc⟩:=h.rel (k/c7) _ (zE hd) (k%c7) _ (zE (by rw[jr];exact Sa));have kv:k/c7*c7+k%c7=k:=by
  have:=Nat.div_add_mod k c7
  rw[Nat.mul_comm]at this;exact this
 rw[kv]at pt;obtain rfl:news[k]=u':=by
  have:=(zS pt).2
  exact this
 exact hc.one
theorem lG.src {c7:Nat} {ys:List (List AV)} {ad:Option Addr} {news:List Value} (h:lG B S m c7 ys ad news) (h0:0<c7) (hz : ∀ e∈ys,e.length=c7) {t e:TypeId} (hu:P.underlying t=some (.slice e)) (cap:Nat):Src P c7 t (.slice ad ys.length cap) ys.length news m.w:=by
 cases ad with
 | none =>
  have zw:ys=[]:=by
   cases ys with
   | nil=>rfl
   | cons y r=>exact absurd (h.some_ (by simp)) (by simp)
  subst zw;have hn:news=[]:=List.eq_nil_of_length_eq_zero (by simpa using h.len);subst hn;exact Src.ofNil m.w hu cap
 | some b=>exact Src.ofSlice m.w hu b ys.length cap news h.len (h.cells b rfl) (h.one h0 hz)
theorem AoN (arr:Array Value) (off:Nat) (news:List Value) (h:off+news.length<=arr.size) (p:Nat):(arr.toList.take off++news++arr.toList.drop (off+news.length)).toArray[p]? = if p<off then arr[p]? else if p<off+news.length then news[p-off]? else arr[p]? := by
 simp only[List.getElem?_toArray];rw[Mu _ _ _ (by simpa using h)];simp only[Array.getElem?_toList]
theorem Apu (t tx e ex:TypeId) (i:TypeInfo) (ht:P.underlying t=some (.slice e)) (hx:P.underlying tx=some (.slice ex)) (hi:P.info? e=some i) (g off uo xo:Nat) (x:Value) (n:Nat) (news:List Value) (w:World) (hs:Src P i.size tx x n news w) (mc:uo+n<=xo) (arr:Array Value) (e':TypeId)
  (hh:w.heap[g]? = some (.cells arr e' (0,0))) (da:off+uo*i.size+news.length<=arr.size) (ty:TypeId) :
  (Builtin.append_ #[t,tx] ty #[.slice (some ⟨g,off,none⟩) uo xo,x]).run P w = .ok (.slice (some ⟨g,off,none⟩) (uo+n) xo) (w.setRow g (arr.toList.take (off+uo*i.size)++news++arr.toList.drop (off+uo*i.size+news.length)).toArray):=by
 have o9:=run_storeCells_at (P:=P) g (off+uo*i.size) e' news 0 arr w hh (by omega) hs.one;simp only[Nat.add_zero]at o9;simp [Builtin.append_,run_underlying ht,run_underlying hx,sizeOf,typeInfo,hi,hs.len,mc,hs.cells,H8,o9]
theorem Afy (t tx e ex:TypeId) (i:TypeInfo) (ht:P.underlying t=some (.slice e)) (hx:P.underlying tx=some (.slice ex)) (hi:P.info? e=some i) (ad:Option Addr) (xo:Nat) (x:Value) (w:World) (hs:Src P i.size tx x 0 [] w) (ty:TypeId) :
  (Builtin.append_ #[t,tx] ty #[.slice ad 0 xo,x]).run P w = .ok (.slice ad 0 xo) w:=by
 have hc:=hs.cells;cases ad<;>simp [Builtin.append_,run_underlying ht,run_underlying hx,sizeOf,typeInfo,hi,hs.len,hc,storeCells]
theorem kV {x y:Operand} {t tx:TypeId} (s8:o.op = .call ⟨.builtin .append,#[x,y],#[t,tx]⟩) {u:Value} {w w':World} (h:(Builtin.append_ #[t,tx] o.type #[a.eval x,a.eval y]).run P w = .ok u w'):(execOp a.eval o).run P w = .ok (.value u) w':=by
 simp [execOp,s8,resolve,invoke,builtin,h]
theorem AmS (jb news:List Value) (z:Array Value) (k p:Nat) (h:p<jb.length+news.length):((jb++news).toArray++Builtin.zeroCells z k)[p]? = (jb++news)[p]? := by
 rw[Array.getElem?_append_left (by simpa using h)];simp
theorem App {c7 len:Nat} {xs ys:List (List AV)} {jb news:List Value} (Hb:xs.length=len) (Lu:jb.length=len*c7) (hzx : ∀ e∈xs,e.length=c7)
  (hx : ∀ i cs,xs[i]? = some cs -> ∀ j c,cs[j]? = some c -> ∃ u,jb[i*c7+j]? = some u/\CC B S m c u)
  (hy : ∀ i cs,ys[i]? = some cs -> ∀ j c,cs[j]? = some c -> ∃ u,news[i*c7+j]? = some u/\CC B S m c u) :
  ∀ i cs,(xs++ys)[i]? = some cs -> ∀ j c,cs[j]? = some c -> ∃ u,(jb++news)[i*c7+j]? = some u/\CC B S m c u:=by
 intro i cs hi j c hj;by_cases eb:i<len
 ·rw[List.getElem?_append_left (by omega)]at hi
  obtain ⟨u,hu,hc⟩:=hx i cs hi j c hj;exact ⟨u,by rw[List.getElem?_append_left (by have:=(zS hu).1;omega)];exact hu,hc⟩
 ·rw[List.getElem?_append_right (by omega),Hb]at hi
  obtain ⟨u,hu,hc⟩:=hy (i-len) cs hi j c hj;refine ⟨u,?_,hc⟩;have e1:i*c7=len*c7+(i-len)*c7:=by rw[<-Nat.add_mul];congr 1;omega
  rw[List.getElem?_append_right (by omega),<-hu];congr 1;omega
theorem AeH {s z n cap:Nat} {es:List (List AV)} {w':World} {g t:Nat} {arr:Array Value} {e:TypeId} (hz:0<z) (hn:n<=cap) (hg:w'.heap[g]? = some (.cells arr e (0,0))) (hc:cap*z<=arr.size) :
  CV B S ⟨n8 m s (some g),m.own.put s (((m.own s).bg t none).new ⟨z,es⟩),w'⟩ (.row s (m.own.n6 s) z 0 n) (.slice (some ⟨g,0,none⟩) n cap):=by
 refine .ca (.one (.row s (m.own.n6 s) z 0 n _ cap ?_ hz hn (λ_=>rfl) λ b' s9=>⟨?_,.inr ⟨g,arr,e,?_,by simp,hg,by simpa using hc⟩⟩))
 ·show _<AH.n6 _ s
  rw[qG];simp
 ·change AH.get _ s _=some b' at s9
  rw[gZ,if_pos ⟨rfl,rfl⟩]at s9;obtain rfl:(⟨z,es⟩:ED)=b':=by simpa using s9
  rfl
 ·simp [n8]
theorem AiL (hm:BQ B S w0 m) (ob:Obj):Below B w0 (m.w.drew.alloc ob):=hm.below.drew.alloc (by simpa using hm.size) ob
theorem Aj3 (hm:BQ B S w0 m) (hs:CT B S m ρ a.eval) {s c7 bytes:Nat} {x' y':AP} (h:BG P num o.op (.app s c7 bytes x' y')=true) {ys:List (List AV)} (hy:ET m.own (ρ y')=some ys) (hz : ∀ e∈ys,e.length=c7) {s' t len:Nat} {b:ED} (hx:ρ x' = .row s' t c7 0 len) (ak:m.own.get s' t=some b)
  (vh:b.c7=c7) (hle:len<=b.es.length) (mc:(len+ys.length)*bytes<=DX) (Gb:len+ys.length<=9223372036854775807) :
  CY B S w0 P o a m (.jc (.row s' (m.own.n6 s') c7 0 (len+ys.length)) (m.own.put s' (((m.own s').bg t none).new ⟨c7,b.es.take len++ys⟩))):=by
 obtain ⟨x,y,ty,e,i,z,tx,ex,s8,h1,h2,hu,hi,da,rz,ja,ln,u7,Dn⟩:=Ad9 h;have h0:0<c7:=Nat.pos_of_ne_zero u7;obtain ⟨ad,cap,fq,ht,_,si,ha,hb⟩:=jN (hx ▸ hs x x' h1);obtain ⟨Dx,oa,news,As,jr⟩:=wL hm (hs y y' h2) hy hz h0;have xg:Src P i.size tx (.slice Dx ys.length oa) ys.length news m.w:=by rw[da];exact jr.src h0 hz Dn oa
 obtain ⟨fw,jl⟩:=hm.m5 s' t b ak;obtain ⟨_,fx⟩:=hb b ak;have fm:(b.es.take len).length=len:=by simp;omega
 have Dt : ∀ q∈b.es.take len++ys,q.length=c7:=λ q hq=>by
  rcases List.mem_append.1 hq with hq|hq
  ·rw[<-vh];exact fw q (List.mem_of_mem_take hq)
  ·exact hz q hq
 intro K Q hK;by_cases yq:len+ys.length<=cap
 ·rcases fx with ⟨ns,gx⟩|⟨g,arr,e',hg,pe,hh,Rb⟩
  ·have zw:ys=[]:=List.eq_nil_of_length_eq_zero (by omega)
   subst zw;subst ns gx;have zf:news=[]:=List.eq_nil_of_length_eq_zero (by simpa using jr.len);subst zf;have bf:=Afy ty tx e ex i hu Dn hi ad 0 (.slice Dx 0 oa) m.w (by simpa using xg) o.type;obtain ⟨k1,k2⟩:=zI hm s' t b ⟨c7,b.es.take 0++[]⟩ ak none m.w hm.below (Nat.le_refl _) (λ_ _ _=>rfl) (by simp) (by simp) (by simp);refine cF (kV s8 (by rw[fq,As];simpa using bf)) (hK _ ⟨n8 m s' none,m.own.put s' (((m.own s').bg t none).new ⟨c7,b.es.take 0++[]⟩),m.w⟩ rfl k1 k2 (.ca (.one (.row s' (m.own.n6 s') c7 0 0 ad 0 ?_ h0 (Nat.le_refl _) (λ h=>by omega) λ b' s9=>⟨?_,.inl ⟨rfl,rfl⟩⟩))))
   ·show _<AH.n6 _ s'
    rw[qG];simp
   ·change AH.get _ s' _=some b' at s9
    rw[gZ,if_pos ⟨rfl,rfl⟩]at s9;obtain rfl:(⟨c7,b.es.take 0++[]⟩:ED)=b':=by simpa using s9
    rfl
  ·have Ei:ad=some ⟨g,0,none⟩:=by simpa using pe
   rw[hg]at jl;obtain ⟨hB,yh,e2,Cz,bq⟩:=jl;rw[hh]at Cz;obtain ⟨rfl,rfl⟩:arr=yh/\e'=e2:=by simpa using Cz
   have Gr:news.length=ys.length*c7:=jr.len;have hbound:len*c7+news.length<=arr.size:=by
    have:(len+ys.length)*c7<=(0+cap)*c7:=Nat.mul_le_mul_right _ (by omega)
    rw[Nat.add_mul]at this;omega
   have bf:=Apu ty tx e ex i hu Dn hi g 0 len cap (.slice Dx ys.length oa) ys.length news m.w xg yq arr e' hh (by rw[da];omega) o.type;rw[da,Nat.zero_add]at bf;generalize ql:(arr.toList.take (len*c7)++news++arr.toList.drop (len*c7+news.length)).toArray=cj at bf;have js : ∀ p,cj[p]? = if p<len*c7 then arr[p]? else if p<len*c7+news.length then news[p-len*c7]? else arr[p]? := λ p=>by rw[<-ql];exact AoN arr (len*c7) news hbound p
   have uf:cj.size=arr.size:=by rw[<-ql];simp;omega
   obtain ⟨k1,k2⟩:=zI hm s' t b ⟨c7,b.es.take len++ys⟩ ak (some g) (m.w.setRow g cj) (Vt hm hB cj) (by simp) (λ k _ zi=>setRow_other _ _ _ _ (λ e=>zi (e ▸ hg))) Dt (by simp) (λ g' oh=>by
    obtain rfl:g=g':=by simpa using oh
    refine ⟨hB,.inr hg,cj,e',setRow_heap _ _ _ _ _ _ hh,λ i' cs ay j c hj => ?_⟩;show ∃ u,cj[i'*c7+j]? = some u/\_;by_cases eb:i'<len
    ·rw[List.getElem?_append_left (by omega),List.getElem?_take,if_pos eb]at ay
     have iq:j<c7:=by rw[<-vh,<-fw cs (zM ay)];exact (zS hj).1
     obtain ⟨u,pt,kj⟩:=bq i' cs ay j c hj;refine ⟨u,?_,kj⟩;have:(i'+1)*c7<=len*c7:=Nat.mul_le_mul_right _ eb
     rw[Nat.succ_mul]at this;rw[js,if_pos (by omega),<-pt,vh]
    ·rw[List.getElem?_append_right (by omega),fm]at ay
     obtain ⟨u,pt,kj⟩:=jr.rel (i'-len) cs ay j c hj;refine ⟨u,?_,kj⟩;have lg:=(zS pt).1;have e1:i'*c7=len*c7+(i'-len)*c7:=by rw[<-Nat.add_mul];congr 1;omega
     rw[js,if_neg (by omega),if_pos (by omega),<-pt];congr 1;omega)
   exact cF (kV s8 (by rw[fq,As,Ei];exact bf)) (hK _ ⟨n8 m s' (some g),m.own.put s' (((m.own s').bg t none).new ⟨c7,b.es.take len++ys⟩),m.w.setRow g cj⟩ rfl k1 k2 (AeH h0 yq (setRow_heap _ _ _ _ _ _ hh) (by rw[uf];simpa using Rb)))
 ·have Cy:cap<len+ys.length:=by omega
  obtain ⟨jb,Lu,hold,Sp⟩ : ∃ jb:List Value,jb.length=len*c7/\(Builtin.firstCells i.size len (.slice ad len cap)).run P m.w.drew = .ok jb.toArray m.w.drew/\(∀ i' cs,(b.es.take len)[i']? = some cs -> ∀ j c,cs[j]? = some c -> ∃ u,jb[i'*c7+j]? = some u/\CC B S m c u):=by
   rcases fx with ⟨ns,gx⟩|⟨g,arr,e',hg,pe,hh,Rb⟩
   ·subst ns
    refine ⟨[],by simp,?_,λ i' cs ay=>by simp at ay⟩;cases ad with
    | none=>exact run_firstCells_none m.w.drew i.size 0 0 cap
    | some Fz=>exact run_firstCells_some m.w.drew i.size 0 Fz 0 cap [] (by simp) (λ j v hv=>by simp at hv)
   ·have Ei:ad=some ⟨g,0,none⟩:=by simpa using pe
    rw[hg]at jl;obtain ⟨hB,yh,e2,Cz,bq⟩:=jl;rw[hh]at Cz;obtain ⟨rfl,rfl⟩:arr=yh/\e'=e2:=by simpa using Cz
    have z7:len*c7<=arr.size:=by
     have:len*c7<=(0+cap)*c7:=Nat.mul_le_mul_right _ (by omega)
     omega
    refine ⟨arr.toList.take (len*c7),by simp;omega,?_,λ i' cs ay j c hj => ?_⟩
    ·rw[Ei]
     refine run_firstCells_some m.w.drew i.size len ⟨g,0,none⟩ len cap _ (by rw[da];simp;omega) (λ j v hv => ?_);rw[List.getElem?_take]at hv;split at hv
     ·rw[H8,qB (w:=m.w.drew) (show m.w.heap[g]? = _ from hh)]
      simpa using hv
     ·cases hv
    ·rw[List.getElem?_take]at ay
     split at ay
     ·rename_i eb
      have iq:j<c7:=by rw[<-vh,<-fw cs (zM ay)];exact (zS hj).1
      obtain ⟨u,pt,kj⟩:=bq i' cs ay j c hj;refine ⟨u,?_,kj⟩;have:(i'+1)*c7<=len*c7:=Nat.mul_le_mul_right _ eb
      rw[Nat.succ_mul]at this;rw[List.getElem?_take,if_pos (by omega),<-pt,vh];simp
     ·cases ay
  have bf:=run_append_grow_src (P:=P) m.w ty tx o.type e i z hu hi ja ad len cap jb hold (.slice Dx ys.length oa) ys.length news xg Cy (by omega) (growslice_fits Cy (by rw[rz];exact mc));have Gr:news.length=ys.length*c7:=jr.len;have fc:len+ys.length<=grownCap m.w (len+ys.length) cap e:=grownCap_ge _ _ _ _;generalize Iq:grownCap m.w (len+ys.length) cap e=gc at bf fc;have nc:=AiL hm (.cells ((jb++news).toArray++Builtin.zeroCells z.cells (gc-(len+ys.length))) e);have pn:(m.w.drew.alloc (.cells ((jb++news).toArray++Builtin.zeroCells z.cells (gc-(len+ys.length))) e)).heap[m.w.heap.size]? = some (.cells ((jb++news).toArray++Builtin.zeroCells z.cells (gc-(len+ys.length))) e (0,0)):=heap_alloc_new m.w.drew _;obtain ⟨k1,k2⟩:=zI hm s' t b ⟨c7,b.es.take len++ys⟩ ak (some m.w.heap.size) _ nc (by simp) (λ k hk _=>Below.heap_alloc m.w.drew _ k hk) Dt (by simp) (λ g' oh=>by
   obtain rfl:m.w.heap.size=g':=by simpa using oh
   refine ⟨hm.size,.inl (Nat.le_refl _),_,e,pn,λ i' cs ay j c hj => ?_⟩;obtain ⟨u,pt,kj⟩:=App fm Lu (λ q hq=>by rw[<-vh];exact fw q (List.mem_of_mem_take hq)) Sp jr.rel i' cs ay j c hj;refine ⟨u,?_,kj⟩;rw[AmS _ _ _ _ _ (by have:=(zS pt).1;simpa using this)];exact pt)
  refine cF (kV s8 (by rw[fq,As];exact bf)) (hK _ ⟨n8 m s' (some m.w.heap.size),m.own.put s' (((m.own s').bg t none).new ⟨c7,b.es.take len++ys⟩),_⟩ rfl k1 k2 (AeH h0 fc pn ?_));have Du:(Builtin.zeroCells z.cells (gc-(len+ys.length))).size=(gc-(len+ys.length))*c7:=by simp [Builtin.zeroCells,ln]
  rw[Array.size_append,Du];simp only[List.size_toArray,List.length_append,Lu,Gr];rw[<-Nat.add_mul,<-Nat.add_mul];exact Nat.mul_le_mul_right _ (by omega)
theorem Aj2 (hm:BQ B S w0 m) (hs:CT B S m ρ a.eval) {s c7 bytes:Nat} {x' y':AP} (h:BG P num o.op (.app s c7 bytes x' y')=true) {ys:List (List AV)} (hy:ET m.own (ρ y')=some ys) (hz : ∀ e∈ys,e.length=c7) (hx:ρ x' = .nil)
  (mc:ys.length*bytes<=DX) (Gb:ys.length<=9223372036854775807) :
  CY B S w0 P o a m (.jc (.row s (m.own.n6 s) c7 0 ys.length) (m.own.put s ((m.own s).new ⟨c7,ys⟩))):=by
 obtain ⟨x,y,ty,e,i,z,tx,ex,s8,h1,h2,hu,hi,da,rz,ja,ln,u7,Dn⟩:=Ad9 h;have h0:0<c7:=Nat.pos_of_ne_zero u7;have fq:=eA (hx ▸ hs x x' h1);obtain ⟨Dx,oa,news,As,jr⟩:=wL hm (hs y y' h2) hy hz h0;have xg:Src P i.size tx (.slice Dx ys.length oa) ys.length news m.w:=by rw[da];exact jr.src h0 hz Dn oa
 intro K Q hK;by_cases zw:ys=[]
 ·subst zw
  have zf:news=[]:=List.eq_nil_of_length_eq_zero (by simpa using jr.len);subst zf;have bf:=Afy ty tx e ex i hu Dn hi none 0 (.slice Dx 0 oa) m.w (by simpa using xg) o.type;obtain ⟨k1,k2⟩:=AgD hm s c7;refine cF (kV s8 (by rw[fq,As];simpa using bf)) (hK _ ⟨n8 m s none,m.own.put s ((m.own s).new ⟨c7,[]⟩),m.w⟩ rfl k1 k2 (.ca (.one (.row s (m.own.n6 s) c7 0 0 none 0 ?_ h0 (Nat.le_refl _) (λ h=>by omega) λ b' s9=>⟨?_,.inl ⟨rfl,rfl⟩⟩))))
  ·show _<AH.n6 _ s
   rw[XN];simp
  ·change AH.get _ s _=some b' at s9
   rw[GJ,if_pos ⟨rfl,rfl⟩]at s9;obtain rfl:(⟨c7,[]⟩:ED)=b':=by simpa using s9
   rfl
 ·have Fj:0<ys.length:=List.length_pos_iff.2 zw
  have bf:=run_append_grow_src (P:=P) m.w ty tx o.type e i z hu hi ja none 0 0 [] (run_firstCells_none m.w.drew i.size 0 0 0) (.slice Dx ys.length oa) ys.length news xg (by omega) (by omega) (growslice_fits (by omega) (by rw[rz,Nat.zero_add];exact mc));simp only[Nat.zero_add,List.nil_append]at bf;have Gr:news.length=ys.length*c7:=jr.len;have fc:ys.length<=grownCap m.w ys.length 0 e:=grownCap_ge _ _ _ _;generalize Iq:grownCap m.w ys.length 0 e=gc at bf fc;have hd:Below m.w.heap.size m.w m.w.drew:=(Below.refl _ _).drew;obtain ⟨pj,Bn⟩:=grow hm hd;obtain ⟨k1,k2⟩:=pQ pj s ⟨c7,ys⟩ (news.toArray++Builtin.zeroCells z.cells (gc-ys.length)) e hz (λ i' cs ay j c hj=>by
   obtain ⟨u,pt,kj⟩:=jr.rel i' cs ay j c hj;refine ⟨u,?_,Bn.cc kj⟩;have lg:=(zS pt).1;show (news.toArray++Builtin.zeroCells z.cells (gc-ys.length))[i'*c7+j]? = some u;rw[Array.getElem?_append_left (by simpa using lg)];simpa using pt)
  have Du:(Builtin.zeroCells z.cells (gc-ys.length)).size=(gc-ys.length)*c7:=by simp [Builtin.zeroCells,ln]
  refine cF (kV s8 (by rw[fq,As];exact bf)) (hK _ ⟨n8 ⟨m.ν,m.own,m.w.drew⟩ s (some m.w.drew.heap.size),m.own.put s ((m.own s).new ⟨c7,ys⟩),_⟩ rfl k1 (Bn.trans k2) (zN (m:=⟨m.ν,m.own,m.w.drew⟩) h0 fc (heap_alloc_new m.w.drew _) ?_));rw[Array.size_append,Du];simp only[List.size_toArray,Gr];rw[<-Nat.add_mul];exact Nat.mul_le_mul_right _ (by omega)
theorem Apv (w:World) (t tx ty e:TypeId) (i:TypeInfo) (z:Value) (ht:P.underlying t=some (.slice e)) {k:IntKind} (hk:P.underlying tx=some (.int k)) (hi:P.info? e=some i) (hz:i.zero=some z) (k':IntKind) (n:Nat)
  (hn:0<n) (Gb:(n:Int)<=9223372036854775807) (h48:n*i.bytes<=DX) (u7:i.size≠0) :
  (Builtin.append_ #[t,tx] ty #[.slice none 0 0,.int k' n]).run P w =
   .ok (.slice (some ⟨w.heap.size,0,none⟩) n (grownCap w n 0 e))
    (w.drew.alloc (.cells (Builtin.zeroCells z.cells n++Builtin.zeroCells z.cells (grownCap w n 0 e-n)) e)):=by
 have yq:=growslice_fits (old:=0) (need:=n) (bytes:=i.bytes) hn h48;have h1 : ¬ (n:Int)<0:=by omega
 have h2 : ¬ n=0:=by omega
 have h3 : ¬ (9223372036854775807<(n:Int)):=by omega
 have h5 : ¬ (281474976710656<Builtin.nextslicecap n 0*i.bytes):=by omega
 have h6 : ¬ ((281474976710656:Int)<(n:Int)*(i.bytes:Int)):=by
  have Pk:n*i.bytes<=140737488355328:=h48;have h7:=Int.ofNat_le.2 Pk;rw[Int.natCast_mul]at h7;omega
 have hA : ∀ w':World,(asIntOf (.int k' n)).run P w' = .ok (k',(n:Int)) w':=λ w'=>rfl
 have e1:IntKind.i64.wrap (n:Int)=n:=by rw[IntKind.wrap_i64];omega
 generalize hw:IntKind.i64.wrap (n:Int)=q at e1;subst e1;simp [Builtin.append_,run_underlying ht,run_underlying hk,sizeOf,typeInfo,zeroValue,hi,hz,asInt,hA,hw,h1,h2,h3,h5,h6,u7,Question.forced,Builtin.firstCells,newRow,grownCap];intro h;rcases Nat.mul_eq_zero.1 h with h|h
 ·exact absurd h h2
 ·exact absurd h u7
theorem Aj4 (hm:BQ B S w0 m) (hs:CT B S m ρ a.eval) {s c7 bytes:Nat} {x' y':AP} (h:BG P num o.op (.ru s c7 bytes x' y')=true) (hx:ρ x' = .nil) {k':IntKind} {n:Int} (hy:ρ y' = .int k' n)
  (hn:0<n) (mc:n*bytes<=DX) (Gb:n<=9223372036854775807) :
  CY B S w0 P o a m (.new s ⟨c7,[]⟩ (λ t => .row s t c7 0 n.toNat)):=by
 obtain ⟨x,y,ty,e,i,z,tx,k,s8,h1,h2,hu,hi,da,rz,ja,ln,u7,Dn⟩:=Ant h;have h0:0<c7:=Nat.pos_of_ne_zero u7;have fq:=eA (hx ▸ hs x x' h1);have hey:=IH (hy ▸ hs y y' h2);obtain ⟨q,rfl⟩ : ∃ q:Nat,n=q:=⟨n.toNat,by omega⟩;simp only[Int.toNat_natCast];intro K Q hK;have bf:=Apv (P:=P) m.w ty tx o.type e i z hu Dn hi ja k' q (by omega) Gb (by
  rw[rz];rw[<-Int.natCast_mul]at mc;exact Int.ofNat_le.1 mc) (by rw[da];exact u7)
 have fc:q<=grownCap m.w q 0 e:=grownCap_ge _ _ _ _;generalize Iq:grownCap m.w q 0 e=gc at bf fc;have hd:Below m.w.heap.size m.w m.w.drew:=(Below.refl _ _).drew;obtain ⟨pj,Bn⟩:=grow hm hd;obtain ⟨k1,k2⟩:=pQ pj s ⟨c7,[]⟩ (Builtin.zeroCells z.cells q++Builtin.zeroCells z.cells (gc-q)) e (by simp) (λ i' cs ay j c hj=>by simp at ay);have Du : ∀ n,(Builtin.zeroCells z.cells n).size=n*c7:=λ n=>by simp [Builtin.zeroCells,ln]
 refine cF (kV s8 (by rw[fq,hey];exact bf)) (hK _ ⟨n8 ⟨m.ν,m.own,m.w.drew⟩ s (some m.w.drew.heap.size),m.own.put s ((m.own s).new ⟨c7,[]⟩),_⟩ rfl k1 (Bn.trans k2) (zN (m:=⟨m.ν,m.own,m.w.drew⟩) h0 fc (heap_alloc_new m.w.drew _) ?_));rw[Array.size_append,Du,Du,<-Nat.add_mul];exact Nat.mul_le_mul_right _ (by omega)
end
end Go.e9

namespace Go.e9
open Go.RowKit
section
variable {B:Nat} {S:Nat->Prop} {w0:World} {m:M}
variable {P:Program} {num:Nat->Nat} {o:Oper} {a:Act} {ρ:AP->AV}
structure HA (P:Program) (num:Nat->Nat) (C:Cl):Prop where
 yj : ∀ (f:Nat) (vs:List AV) (r:AV),C.pure f vs=some r -> ∀ (us:Array Value) (w:World),(callFunc (num f) us).run P w = .ok (.enter (num f) us) w
 tt : ∀ (f:Nat) (vs:List AV) (own:AH) (r:AV × AH),C.mh f vs own=some r -> ∀ (us:Array Value) (w:World),(callFunc (num f) us).run P w = .ok (.enter (num f) us) w
 pure : ∀ (f:Nat) (vs:List AV) (r:AV),C.pure f vs=some r -> ∀ (S:Nat->Prop) (w:World) (us:List Value),vs.length=us.length->(∀ (j:Nat) (c:AV) (v:Value),vs[j]? = some c->us[j]? = some v->CA w.heap.size S ⟨λ_ _=>none,AH.emp,w⟩ c v) ->
  Calls P (num f) us.toArray w λ e w' => ∃ u,e = .returned u/\Below w.heap.size w w'/\CV w.heap.size S ⟨λ_ _=>none,AH.emp,w'⟩ r u/\A6 r
 mh : ∀ (f:Nat) (vs:List AV) (own:AH) (r:AV) (w8:AH),C.mh f vs own=some (r,w8) -> ∀ (B:Nat) (S:Nat->Prop) (w0:World) (m:M) (us:List Value),m.own=own->BQ B S w0 m->vs.length=us.length->(∀ (j:Nat) (c:AV) (v:Value),vs[j]? = some c->us[j]? = some v->CV B S m c v) ->
  Calls P (num f) us.toArray m.w λ e w' => ∃ u m',e = .returned u/\m'.w=w'/\m'.own=w8/\BQ B S w0 m'/\DQ B S m m'/\CV B S m' r u
 num:C.num=num
end
end Go.e9

namespace Go.e9
open Go.RowKit
theorem dE {α β:Type} (f:α->Option β) : ∀ {l:List α} {l':List β},l.mapM f=some l'->l.length=l'.length /\ ∀ (i:Nat) (x:α),l[i]? = some x -> ∃ y,l'[i]? = some y/\f x=some y
 | [],l',h=>by
  simp at h;subst h;exact ⟨rfl,λ i x hx=>by simp at hx⟩
 | x::r,l',h=>by
  simp only[List.mapM_cons,Option.bind_eq_bind,Option.pure_def]at h;cases hx:f x with
  | none=>simp [hx]at h
  | some y =>
   cases hr:r.mapM f with
   | none=>simp [hx,hr]at h
   | some r' =>
    simp [hx,hr]at h;subst h;obtain ⟨h1,h2⟩:=dE f hr;refine ⟨by simp [h1],λ i z hz => ?_⟩;cases i with
    | zero=>simp at hz;subst hz;exact ⟨y,rfl,hx⟩
    | succ i=>exact h2 i z (by simpa using hz)
section
variable {B:Nat} {S:Nat->Prop} {w0:World} {m:M}
variable {P:Program} {num:Nat->Nat} {o:Oper} {a:Act} {ρ:AP->AV}
theorem Af0 (hm:BQ B S w0 m) (l0:Bool) (R:Bool->Nat->Prop) (hR : ∀ l b,b<m.w.heap.size->safe B S m l b->R l b) (hL : ∀ s t g,live m s t->m.ν s t=some g->R l0 g) :
  ∀ (d:Nat) (c c':AV) (v:Value),snap m.own l0 d c=some c'->CC B S m c v->Rd m.w R c' v:=by
 intro d;induction d with
 | zero =>
  intro c c' v h hc;cases hc with
  | rd hr =>
   have:c'=c:=by cases hr<;>simp [snap]at h<;>exact h.symm
   subst this;exact hr.mono hR (λ_ _ _ _=>rfl)
  | nil=>simp [snap]at h;subst h;exact .nm _ _ _
  | _=>simp [snap]at h
 | succ d ih =>
  intro c c' v h hc;cases hc with
  | rd hr =>
   have:c'=c:=by cases hr<;>simp [snap]at h<;>exact h.symm
   subst this;exact hr.mono hR (λ_ _ _ _=>rfl)
  | nil=>simp [snap]at h;subst h;exact .nm _ _ _
  | ptr=>simp [snap]at h
  | bu=>simp [snap]at h
  | row s t z off len ad cap ht ja si ha hb =>
   simp only[snap]at h;cases jr:ET m.own (.row s t z off len) with
   | none=>simp [jr]at h
   | some es =>
    simp only[jr]at h;cases ni:es.mapM (λ cs:List AV=>cs.mapM (snap m.own l0 d)) with
    | none=>simp [ni]at h
    | some es' =>
     simp [ni]at h;subst h;have Ug:(∀ e∈es,e.length=z)/\es.length=len /\ ∃ b,m.own.get s t=some b:=by
      simp only[ET]at jr;cases ak:m.own.get s t with
      | none=>simp [ak]at jr
      | some b =>
       simp only[ak]at jr;split at jr
       ·rename_i hle
        obtain rfl:=Option.some.inj jr;refine ⟨λ e he => ?_,by simp;omega,b,rfl⟩;rw[<-hle.2];exact (hm.m5 s t b ak).1 e (List.mem_of_mem_drop (List.mem_of_mem_take he))
       ·cases jr
     obtain ⟨hz,hlen,b,ak⟩:=Ug;have db:CV B S m (.row s t z off len) (.slice ad len cap):= .ca (.one (.row s t z off len ad cap ht ja si ha hb));obtain ⟨ad2,Pg,news,Mb,hE⟩:=wL hm db jr hz ja;obtain ⟨rfl,_,rfl⟩:ad=ad2/\len=es.length/\cap=Pg:=by simpa using Mb
     obtain ⟨oo,yw⟩:=dE _ ni;by_cases h0:es=[]
     ·subst h0
      have:es'=[]:=List.eq_nil_of_length_eq_zero (by rw[<-oo];rfl)
      subst this;have:len=0:=by rw[<-hlen];rfl
      subst this;exact .nm _ _ _
     ·obtain ⟨_,fx⟩:=hb b ak
      rcases fx with ⟨AFH,_⟩|⟨g,arr,e',hg,pe,hh,Rb⟩
      ·exact absurd (List.eq_nil_of_length_eq_zero (by omega)) h0
      ·rw[pe,<-hlen,oo]
       refine .sl l0 es' g (off*z) z cap (λ i j=>news.getD (i*z+j) undef) (λ e=>h0 (List.eq_nil_of_length_eq_zero (by rw[oo,e];rfl))) ja (hL s t g ⟨b,ak⟩ hg) (by omega) (λ e' kt => ?_) (λ i e hi j c hj => ?_) (λ i e hi j c hj => ?_)
       ·obtain ⟨i,hi,rfl⟩:=List.getElem_of_mem kt
        have ay:i<es.length:=by omega
        obtain ⟨y,hy,lv⟩:=yw i es[i] (zE ay);have:es'[i]=y:=by
         have:=(zS hy).2;exact this
        rw[this,<-(dE _ lv).1];exact hz _ (List.getElem_mem ay)
       ·have ay:i<es.length:=by rw[oo];exact (zS hi).1
        obtain ⟨y,hy,lv⟩:=yw i es[i] (zE ay);rw[hi]at hy;obtain rfl:e=y:=by simpa using hy
        obtain ⟨ma,_⟩:=dE _ lv;have Gp:j<(es[i]).length:=by rw[ma];exact (zS hj).1
        obtain ⟨u,hu,kj⟩:=hE.rel i es[i] (zE ay) j _ (zE Gp);have:=hE.cells _ pe (i*z+j) u hu
        rw[H8]at this;simp only[List.getD,hu,Option.getD_some];exact this
       ·have ay:i<es.length:=by rw[oo];exact (zS hi).1
        obtain ⟨y,hy,lv⟩:=yw i es[i] (zE ay);rw[hi]at hy;obtain rfl:e=y:=by simpa using hy
        obtain ⟨ma,oh⟩:=dE _ lv;have Gp:j<(es[i]).length:=by rw[ma];exact (zS hj).1
        obtain ⟨u,hu,kj⟩:=hE.rel i es[i] (zE ay) j _ (zE Gp);obtain ⟨c2,vi,vu⟩:=oh j _ (zE Gp);rw[hj]at vi;obtain rfl:c=c2:=by simpa using vi
        simp only[List.getD,hu,Option.getD_some];exact ih _ _ _ vu kj
def DA (w:World) (R:Bool->Nat->Prop) (c:AV) (v:Value):Prop :=
 Rd w R c v \/ ∃ (cs:List AV) (vs:List Value),c = .agg cs/\v = .agg vs.toArray/\cs.length=vs.length /\ ∀ (j:Nat) (x:AV) (u:Value),cs[j]? = some x->vs[j]? = some u->Rd w R x u
theorem tK (hm:BQ B S w0 m) (l0:Bool) (R:Bool->Nat->Prop) (hR : ∀ l b,b<m.w.heap.size->safe B S m l b->R l b) (hL : ∀ s t g,live m s t->m.ν s t=some g->R l0 g)
  {c c':AV} {v:Value} (h:C8 m.own l0 c=some c') (hc:CV B S m c v):DA m.w R c' v:=by
 cases hc with
 | any v=>simp [C8,snap]at h
 | m9=>simp [C8,snap]at h
 | ca hc=>cases hc with
  | one hc =>
   have h':snap m.own l0 6 c=some c':=by
    cases hc with
    | rd hr=>cases hr<;>simpa [C8] using h
    | _=>simpa [C8] using h
   exact Or.inl (Af0 hm l0 R hR hL 6 c c' v h' hc)
  | fn=>simp [C8,snap]at h
  | xp=>simp [C8,snap]at h
  | agg cs vs z7 =>
   simp only[C8]at h;cases kr:cs.mapM (snap m.own l0 6) with
   | none=>simp [kr]at h
   | some jq =>
    simp [kr]at h;subst h;obtain ⟨h1,h2⟩:=dE _ kr;refine Or.inr ⟨jq,vs,rfl,rfl,h1.symm.trans z7.1,λ j x u hx hu => ?_⟩;have hj:j<cs.length:=by rw[h1];exact (zS hx).1
    obtain ⟨y,hy,lv⟩:=h2 j cs[j] (zE hj);rw[hx]at hy;obtain rfl:x=y:=by simpa using hy
    exact Af0 hm l0 R hR hL 6 _ _ _ lv (z7.2 j cs[j] u (zE hj) hu)
def DV (w:World) (R:Bool->Nat->Prop) (c:AV) (v:Value):Prop :=
 DA w R c v \/ ∃ (cs:List AV) (vs:List Value),c = .m9 cs/\v = .tuple vs.toArray/\cs.length=vs.length /\ ∀ (j:Nat) (x:AV) (u:Value),cs[j]? = some x->vs[j]? = some u->DA w R x u
theorem Ap3 (hm:BQ B S w0 m) (l0:Bool) (R:Bool->Nat->Prop) (hR : ∀ l b,b<m.w.heap.size->safe B S m l b->R l b) (hL : ∀ s t g,live m s t->m.ν s t=some g->R l0 g)
  {c c':AV} {v:Value} (h:fO m.own l0 c=some c') (hc:CV B S m c v):DV m.w R c' v:=by
 by_cases ht : ∃ cs,c = .m9 cs
 ·obtain ⟨cs,rfl⟩:=ht
  obtain ⟨vs,rfl,hl,bq⟩:=vP hc;simp only[fO]at h;cases kr:cs.mapM (C8 m.own l0) with
  | none=>simp [kr]at h
  | some jq =>
   simp [kr]at h;subst h;obtain ⟨h1,h2⟩:=dE _ kr;refine Or.inr ⟨jq,vs,rfl,rfl,h1.symm.trans hl,λ j x u hx hu => ?_⟩;have hj:j<cs.length:=by rw[h1];exact (zS hx).1
   obtain ⟨y,hy,lv⟩:=h2 j cs[j] (zE hj);rw[hx]at hy;obtain rfl:x=y:=by simpa using hy
   exact tK hm l0 R hR hL lv (.ca (bq j cs[j] u (zE hj) hu))
 ·have h':C8 m.own l0 c=some c':=by
   cases c<;>first|exact h|exact absurd ⟨_,rfl⟩ ht
  exact Or.inl (tK hm l0 R hR hL h' hc)
theorem DA.ca {B:Nat} {S:Nat->Prop} {m:M} {c:AV} {v:Value} (h:DA m.w (safe B S m) c v):CA B S m c v:=by
 rcases h with h|⟨cs,vs,rfl,rfl,hl,hh⟩
 ·exact .one (.rd h)
 ·exact .agg cs vs ⟨hl,λ j x u hx hu => .rd (hh j x u hx hu)⟩
theorem DV.cv {B:Nat} {S:Nat->Prop} {m:M} {c:AV} {v:Value} (h:DV m.w (safe B S m) c v):CV B S m c v:=by
 rcases h with h|⟨cs,vs,rfl,rfl,hl,hh⟩
 ·exact .ca h.ca
 ·exact .m9 cs vs hl λ j x u hx hu=>(hh j x u hx hu).ca
theorem bP : ∀ {cs:List AV},CW cs -> ∀ (j:Nat) (c:AV),cs[j]? = some c->A6 c
 | [],_,j,c,h=>by simp at h
 | x::r,hc,j,c,h=>by
  unfold CW at hc;cases j with
  | zero=>simp at h;subst h;exact hc.1
  | succ j=>exact bP hc.2 j c (by simpa using h)
theorem qE : ∀ {cs:List (List AV)},F2 cs -> ∀ (j:Nat) (c:List AV),cs[j]? = some c->CW c
 | [],_,j,c,h=>by simp at h
 | x::r,hc,j,c,h=>by
  unfold F2 at hc;cases j with
  | zero=>simp at h;subst h;exact hc.1
  | succ j=>exact qE hc.2 j c (by simpa using h)
theorem Rd.clean {w:World} {R R':Bool->Nat->Prop} (hR : ∀ b,b<w.heap.size->R false b->R' false b) {c:AV} {v:Value} (h:Rd w R c v) (hc:A6 c):Rd w R' c v:=by
 induction h with
 | int k n=>exact .int k n
 | bool b=>exact .bool b
 | str s=>exact .str s
 | nm l a cap=>exact .nm l a cap
 | emp b a cap h=>exact .emp b a cap h
 | sl l es b o c7 cap u u7 hp h1 fc hz z7 hr ih =>
  unfold A6 at hc;obtain ⟨rfl,hc⟩:=hc;obtain ⟨e,c,he,gx⟩:=mX u7 hp hz;have hb:b<w.heap.size:=gH (z7 0 e he 0 c gx);exact .sl false es b o c7 cap u u7 hp (hR b hb h1) fc hz z7 λ i e he j c hj=>ih i e he j c hj (bP (qE hc i e he) j c hj)
theorem DA.clean {w:World} {R R':Bool->Nat->Prop} (hR : ∀ b,b<w.heap.size->R false b->R' false b) {c:AV} {v:Value} (h:DA w R c v) (hc:A6 c):DA w R' c v:=by
 rcases h with h|⟨cs,vs,rfl,rfl,hl,hh⟩
 ·exact Or.inl (h.clean hR hc)
 ·unfold A6 at hc
  exact Or.inr ⟨cs,vs,rfl,rfl,hl,λ j x u hx hu=>(hh j x u hx hu).clean hR (bP hc j x hx)⟩
theorem DV.clean {w:World} {R R':Bool->Nat->Prop} (hR : ∀ b,b<w.heap.size->R false b->R' false b) {c:AV} {v:Value} (h:DV w R c v) (hc:A6 c):DV w R' c v:=by
 rcases h with h|⟨cs,vs,rfl,rfl,hl,hh⟩
 ·exact Or.inl (h.clean hR hc)
 ·unfold A6 at hc
  exact Or.inr ⟨cs,vs,rfl,rfl,hl,λ j x u hx hu=>(hh j x u hx hu).clean hR (bP hc j x hx)⟩
theorem vO {B:Nat} {S:Nat->Prop} {m:M} {c:AV} {v:Value} (h:CV B S m c v) (hc:A6 c):DV m.w (safe B S m) c v:=by
 have one : ∀ {c:AV} {v:Value},CC B S m c v->A6 c->Rd m.w (safe B S m) c v:=λ h hc=>by
  cases h with
  | rd h=>exact h
  | _=>unfold A6 at hc;exact hc.elim
 have ca : ∀ {c:AV} {v:Value},CA B S m c v->A6 c->DA m.w (safe B S m) c v:=λ h hc=>by
  cases h with
  | one h=>exact Or.inl (one h hc)
  | fn=>unfold A6 at hc;exact hc.elim
  | xp=>unfold A6 at hc;exact hc.elim
  | agg cs vs h =>
   unfold A6 at hc;exact Or.inr ⟨cs,vs,rfl,rfl,h.1,λ j x u hx hu=>one (h.2 j x u hx hu) (bP hc j x hx)⟩
 cases h with
 | any v=>unfold A6 at hc;exact hc.elim
 | ca h=>exact Or.inl (ca h hc)
 | m9 as vs hl h =>
  unfold A6 at hc;exact Or.inr ⟨as,vs,rfl,rfl,hl,λ j x u hx hu=>ca (h j x u hx hu) (bP hc j x hx)⟩
theorem sW {f:Nat} {xs:Array Operand} {ts:Array TypeId} (s8:o.op = .call ⟨.value (.func f),xs,ts⟩) {w:World} (h:(callFunc f (xs.map a.eval)).run P w = .ok (.enter f (xs.map a.eval)) w):(execOp a.eval o).run P w = .ok (.enter f (xs.map a.eval)) w:=by
 simp [execOp,s8,resolve,Deferred.ofValue,Act.eval,invoke];exact h
theorem Acs {C:Cl} (hC:HA P num C) (hm:BQ B S w0 m) {f:Nat} {us:List Value} {as:List AV} (hl:us.length=as.length) (hx : ∀ (j:Nat) (v:Value) (c:AV),us[j]? = some v->as[j]? = some c->CV B S m c v) (hex : ∀ w:World,(callFunc (num f) us.toArray).run P w = .ok (.enter (num f) us.toArray) w->(execOp a.eval o).run P w = .ok (.enter (num f) us.toArray) w) {vs:List AV} {r:AV} (hv:as.mapM (C8 m.own true)=some vs) (hr:C.pure f vs=some r):CY B S w0 P o a m (.val r):=by
 obtain ⟨ma,oh⟩:=dE _ hv;have oe : ∀ (j:Nat) (c:AV) (v:Value),vs[j]? = some c->us[j]? = some v->CA m.w.heap.size (safe B S m false) ⟨λ_ _=>none,AH.emp,m.w⟩ c v:=by
  intro j c v hc yd;have iq:j<as.length:=by rw[<-hl];exact (zS yd).1
  obtain ⟨y,hy,lv⟩:=oh j as[j] (zE iq);rw[hc]at hy;obtain rfl:c=y:=by simpa using hy
  have db:=hx j v as[j] yd (zE iq);have Cw:=tK hm true (safe m.w.heap.size (safe B S m false) ⟨λ_ _=>none,AH.emp,m.w⟩) (λ l b hb Ca=>by
   cases l with
   | false=>exact .inl ⟨Ca,hb⟩
   | true=>exact .inr (.inr ⟨rfl,hb⟩)) (λ s t g nu hg=>by
   obtain ⟨_,arr,e,hh⟩:=hm.ge nu hg;exact .inr (.inr ⟨rfl,(Array.getElem?_eq_some_iff.1 hh).1⟩)) lv db
  exact DA.ca (m:=⟨λ_ _=>none,AH.emp,m.w⟩) Cw
 have jy:=hC.pure f vs r hr (safe B S m false) m.w us (by rw[<-ma];exact hl.symm) oe;intro K Q hK;unfold Oper.wp;rw[hex _ (hC.yj f vs r hr _ _)];refine Calls.mono jy λ e w' ⟨u,kt,nc,db,z7⟩ => ?_
 subst kt;obtain ⟨qf,ku⟩:=grow hm nc;refine hK u ⟨m.ν,m.own,w'⟩ rfl qf ku ?_;refine DV.cv (m:=⟨m.ν,m.own,w'⟩) ((vO db z7).clean (λ b hb Ca => ?_) z7);rcases Ca with ⟨h1,h2⟩|⟨h1,_⟩|⟨h1,_⟩
 ·exact ku.Dv false b h2 h1
 ·refine .inr (.inl ⟨Nat.le_trans hm.size h1,λ s t nu hg => ?_⟩)
  obtain ⟨b',s9⟩:=Option.isSome_iff_exists.1 nu;obtain ⟨_,arr,e,hh⟩:=hm.ge ⟨b',s9⟩ hg;have:=(Array.getElem?_eq_some_iff.1 hh).1
  omega
 ·cases h1
theorem Acr {C:Cl} (hC:HA P num C) (hm:BQ B S w0 m) (hs:CT B S m ρ a.eval) {f:Nat} {xs:Array Operand} {ag:List AP} (he:EI xs.toList ag=true) (hex : ∀ w:World,(callFunc (num f) (xs.map a.eval)).run P w = .ok (.enter (num f) (xs.map a.eval)) w->(execOp a.eval o).run P w = .ok (.enter (num f) (xs.map a.eval)) w) {vs:List AV} {r:AV} (hv:(ag.map ρ).mapM (C8 m.own true)=some vs) (hr:C.pure f vs=some r):CY B S w0 P o a m (.val r):=by
 obtain ⟨hl,hx⟩:=gP hs he;have kz:(xs.map a.eval)=(xs.toList.map a.eval).toArray:=by cases xs;simp
 rw[kz]at hex;refine Acs hC hm (us:=xs.toList.map a.eval) (as:=ag.map ρ) (by simp [hl]) (λ j v c h1 h2 => ?_) hex hv hr;rw[List.getElem?_map]at h1 h2;cases ox:xs.toList[j]? with
 | none=>simp [ox]at h1
 | some x =>
  cases tf:ag[j]? with
  | none=>simp [tf]at h2
  | some y =>
   simp only[ox,tf,Option.map_some,Option.some.injEq]at h1 h2;subst h1 h2;exact hx j x y ox tf
theorem Aka {C:Cl} (hC:HA P num C) (hm:BQ B S w0 m) (hs:CT B S m ρ a.eval) {f:Nat} {ag:List AP} (h:BG P num o.op (.call f ag)=true) {vs:List AV} {r:AV} (hv:(ag.map ρ).mapM (C8 m.own true)=some vs) (hr:C.pure f vs=some r):CY B S w0 P o a m (.val r):=by
 obtain ⟨xs,ts,s8,he⟩:=yO h;exact Acr hC hm hs he (λ w h=>sW s8 h) hv hr
theorem Zu {C:Cl} (hC:HA P num C) (hm:BQ B S w0 m) (hs:CT B S m ρ a.eval) {f:Nat} {ag:List AP} (h:BG P num o.op (.m7 f ag)=true) {r:AV} {w8:AH} (hr:C.mh f (ag.map ρ) m.own=some (r,w8)):CY B S w0 P o a m (.jc r w8):=by
 obtain ⟨xs,ts,s8,he⟩:=Anz h;obtain ⟨hl,hx⟩:=gP hs he;have kz:(xs.map a.eval)=(xs.toList.map a.eval).toArray:=by cases xs;simp
 have jy:=hC.mh f (ag.map ρ) m.own r w8 hr B S w0 m (xs.toList.map a.eval) rfl hm (by simp [hl]) (λ j c v hc hv=>by
  rw[List.getElem?_map]at hc hv;cases ox:xs.toList[j]? with
  | none=>simp [ox]at hv
  | some x =>
   cases tf:ag[j]? with
   | none=>simp [tf]at hc
   | some y =>
    simp [ox]at hv;simp [tf]at hc;subst hv hc;exact hx j x y ox tf)
 intro K Q hK;unfold Oper.wp;rw[sW s8 (hC.tt f _ _ _ hr _ _),kz];refine Calls.mono jy λ e w' ⟨u,m',kt,hw,q6,qf,ku,db⟩ => ?_
 subst kt hw;exact hK u m' q6 qf ku db
theorem AiA (hm:BQ B S w0 m) {w':World} (hb:Below m.w.heap.size m.w w') (s:Nat) (b:ED) (gg:Option Nat) (hz : ∀ x∈b.es,x.length=b.c7)
  (hg:match gg with|none=>b.es=[]|some g=>m.w.heap.size<=g /\ ∃ arr e,w'.heap[g]? = some (.cells arr e (0,0)) /\ ∀ i cs,b.es[i]? = some cs -> ∀ j c,cs[j]? = some c -> ∃ u,arr[i*b.c7+j]? = some u/\CC B S ⟨n8 m s gg,m.own.put s ((m.own s).new b),w'⟩ c u) :
  BQ B S w0 ⟨n8 m s gg,m.own.put s ((m.own s).new b),w'⟩/\DQ B S m ⟨n8 m s gg,m.own.put s ((m.own s).new b),w'⟩:=by
 have hν : ∀ s' t',live m s' t'->n8 m s gg s' t'=m.ν s' t':=λ s' t' hl=>by
  unfold n8;rw[if_neg];rintro ⟨rfl,rfl⟩
  exact rT hm _ hl
 have qt : ∀ g,gg=some g->m.w.heap.size<=g:=λ g e=>by subst e;exact hg.1
 have he:DQ B S m ⟨n8 m s gg,m.own.put s ((m.own s).new b),w'⟩:=by
  refine gT hm hb.size (λ k hk _=>hb.block k hk) (λ s' => ?_) (λ s' t' b' ht s9 => ?_) (λ s' t' g hl js v9 => ?_)
  ·rw[XN];split
   ·rename_i h;subst h;omega
   ·exact Nat.le_refl _
  ·rw[GJ]at s9
   rw[if_neg (by rintro ⟨rfl,rfl⟩;omega)]at s9;refine ⟨b',s9,rfl,hν s' t' ⟨b',s9⟩,λ g ar e' js ha=>⟨ar,?_,rfl⟩⟩;exact (hb.block g (Array.getElem?_eq_some_iff.1 ha).1).trans ha
  ·obtain ⟨b',s9⟩:=hl
   rw[GJ]at s9;by_cases h:s'=s/\t'=m.own.n6 s
   ·simp only[n8,if_pos h]at js
    have:=qt g js
    omega
   ·rw[if_neg h]at s9
    exact ⟨s',t',⟨b',s9⟩,by rw[<-hν s' t' ⟨b',s9⟩];exact js⟩
 refine ⟨⟨hm.below.trans (hb.mono hm.size),Nat.le_trans hm.size hb.size,λ s' t' ht => ?_,λ s' t' b' s9 => ?_,λ s1 t1 s2 t2 b1 b2 g h1 h2 g1 g2 => ?_⟩,he⟩
 ·rw[XN]at ht
  rw[GJ,if_neg]
  ·refine hm.fresh s' t' ?_
   split at ht
   ·rename_i h;subst h;omega
   ·exact ht
  ·rintro ⟨rfl,rfl⟩
   simp at ht;omega
 ·rw[GJ]at s9
  by_cases h:s'=s/\t'=m.own.n6 s
  ·rw[if_pos h]at s9
   obtain rfl:b=b':=by simpa using s9
   refine ⟨hz,?_⟩;show match n8 m s gg s' t' with|none=>_|some g=>_
   rw[show n8 m s gg s' t'=gg by simp [n8,h]];cases gg with
   | none=>exact hg
   | some g=>exact ⟨Nat.le_trans hm.size hg.1,hg.2⟩
  ·rw[if_neg h]at s9
   obtain ⟨h1,h2⟩:=hm.m5 s' t' b' s9;refine ⟨h1,?_⟩;show match n8 m s gg s' t' with|none=>_|some g=>_
   rw[hν s' t' ⟨b',s9⟩];cases hv:m.ν s' t' with
   | none=>rw[hv]at h2;exact h2
   | some g =>
    rw[hv]at h2;obtain ⟨h3,ar,e',h4,h5⟩:=h2;refine ⟨h3,ar,e',(hb.block g (Array.getElem?_eq_some_iff.1 h4).1).trans h4,λ i cs hi j c hj => ?_⟩;obtain ⟨u,hu,bq⟩:=h5 i cs hi j c hj;exact ⟨u,hu,he.cc bq⟩
 ·rw[GJ]at h1 h2
  have lt : ∀ s' t' b',m.own.get s' t'=some b'->n8 m s gg s' t'=some g->g<m.w.heap.size:=λ s' t' b' s9 js=>by
   rw[hν s' t' ⟨b',s9⟩]at js;obtain ⟨_,ar,e',h4⟩:=hm.ge ⟨b',s9⟩ js;exact (Array.getElem?_eq_some_iff.1 h4).1
  have at_ : ∀ s' t',s'=s/\t'=m.own.n6 s->n8 m s gg s' t'=some g->m.w.heap.size<=g:=λ s' t' h js=>by
   simp only[n8,if_pos h]at js;exact qt g js
  by_cases p1:s1=s/\t1=m.own.n6 s<;>by_cases p2:s2=s/\t2=m.own.n6 s
  ·exact ⟨p1.1.trans p2.1.symm,p1.2.trans p2.2.symm⟩
  ·rw[if_neg p2]at h2
   have:=lt s2 t2 b2 h2 g2
   have:=at_ s1 t1 p1 g1
   omega
  ·rw[if_neg p1]at h1
   have:=lt s1 t1 b1 h1 g1
   have:=at_ s2 t2 p2 g2
   omega
  ·rw[if_neg p1]at h1
   rw[if_neg p2]at h2;exact hm.inj s1 t1 s2 t2 b1 b2 g h1 h2 (by rw[<-hν s1 t1 ⟨b1,h1⟩];exact g1) (by rw[<-hν s2 t2 ⟨b2,h2⟩];exact g2)
theorem Ake {C:Cl} (hC:HA P num C) (hm:BQ B S w0 m) (hs:CT B S m ρ a.eval) {s f:Nat} {ag:List AP} (h:BG P num o.op (.bm s f ag)=true) {vs:List AV} (hv:(ag.map ρ).mapM (bZ m.own true)=some vs) {z:Nat} {es:List (List AV)} (hr:bL (C.mh f vs AH.emp)=some (z,es)) :
  CY B S w0 P o a m (.new s ⟨z,es⟩ (λ t => .row s t z 0 es.length)):=by
 obtain ⟨xs,ts,s8,he⟩:=yO (AnB h);obtain ⟨s0,t0,o',b0,Lo,ak,rfl,z7⟩:=Aiz hr;obtain ⟨hl,hx⟩:=gP hs he;obtain ⟨ma,oh⟩:=dE _ hv;have kz:(xs.map a.eval)=(xs.toList.map a.eval).toArray:=by cases xs;simp
 have oe : ∀ (j:Nat) (c:AV) (v:Value),vs[j]? = some c->(xs.toList.map a.eval)[j]? = some v->CV m.w.heap.size (safe B S m false) ⟨λ_ _=>none,AH.emp,m.w⟩ c v:=by
  intro j c v hc yd;rw[List.getElem?_map]at yd;cases ox:xs.toList[j]? with
  | none=>simp [ox]at yd
  | some x =>
   simp [ox]at yd;subst yd;have iq:j<ag.length:=by rw[<-hl];exact (zS ox).1
   obtain ⟨y,hy,lv⟩:=oh j (ρ ag[j]) (by rw[List.getElem?_map,zE iq];rfl);rw[hc]at hy;obtain rfl:c=y:=by simpa using hy
   have db:=hx j x ag[j] ox (zE iq);have hN:(ρ ag[j] = .nil/\c = .nil)\/C8 m.own true (ρ ag[j])=some c:=by
    cases e:ρ ag[j] with
    | nil=>rw[e]at lv;exact .inl ⟨rfl,(Option.some.inj lv).symm⟩
    | _=>rw[e]at lv;exact .inr lv
   rcases hN with ⟨e1,rfl⟩|lv
   ·rw[e1]at db
    rw[eA db];exact .ca (.one .nil)
   have Cw:=tK hm true (safe m.w.heap.size (safe B S m false) ⟨λ_ _=>none,AH.emp,m.w⟩) (λ l b hb Ca=>by
    cases l with
    | false=>exact .inl ⟨Ca,hb⟩
    | true=>exact .inr (.inr ⟨rfl,hb⟩)) (λ s t g nu hg=>by
    obtain ⟨_,arr,e,hh⟩:=hm.ge nu hg;exact .inr (.inr ⟨rfl,(Array.getElem?_eq_some_iff.1 hh).1⟩)) lv db
   exact .ca (DA.ca (m:=⟨λ_ _=>none,AH.emp,m.w⟩) Cw)
 have Rw:BQ m.w.heap.size (safe B S m false) m.w ⟨λ_ _=>none,AH.emp,m.w⟩:=⟨Below.refl _ _,Nat.le_refl _,λ_ _ _=>rfl,(λ s t b h=>by cases h),(λ_ _ _ _ _ _ _ h=>by cases h)⟩;have jy:=hC.mh f vs AH.emp _ o' Lo m.w.heap.size (safe B S m false) m.w ⟨λ_ _=>none,AH.emp,m.w⟩ (xs.toList.map a.eval) rfl Rw (by rw[<-ma];simp [hl]) oe;intro K Q hK;unfold Oper.wp;rw[sW s8 (hC.tt f _ _ _ Lo _ _),kz];refine Calls.mono jy λ e w' ⟨u,m',kt,hw,q6,qf,Auy,db⟩ => ?_
 subst kt hw;have nc:Below m.w.heap.size m.w m'.w:=qf.below;rw[<-q6]at ak;obtain ⟨hz,qm⟩:=qf.m5 s0 t0 b0 ak;obtain ⟨ad,cap,rfl,ht,ja,si,ha,hb⟩:=jN db;obtain ⟨ln,fx⟩:=hb b0 ak;subst ln;have hold : ∀ s t g,live m s t->m.ν s t=some g->g<m.w.heap.size:=λ s t g nu hg=>by
  obtain ⟨_,arr,e,hh⟩:=hm.ge nu hg;exact (Array.getElem?_eq_some_iff.1 hh).1
 have Ff : ∀ s' t' g,live ⟨n8 m s (m'.ν s0 t0),m.own.put s ((m.own s).new ⟨b0.c7,b0.es⟩),m'.w⟩ s' t'->n8 m s (m'.ν s0 t0) s' t'=some g->g<m.w.heap.size\/m'.ν s0 t0=some g:=λ s' t' g nu hg=>by
  obtain ⟨b',s9⟩:=nu;rw[GJ]at s9;by_cases o9:s'=s/\t'=m.own.n6 s
  ·simp only[n8,if_pos o9]at hg
   exact Or.inr hg
  ·rw[if_neg o9]at s9
   simp only[n8,if_neg o9]at hg;exact Or.inl (hold s' t' g ⟨b',s9⟩ hg)
 have hR : ∀ b,b<m'.w.heap.size->safe m.w.heap.size (safe B S m false) m' false b->safe B S ⟨n8 m s (m'.ν s0 t0),m.own.put s ((m.own s).new ⟨b0.c7,b0.es⟩),m'.w⟩ false b:=λ b Bi Ca=>by
  rcases Ca with ⟨h1,h2⟩|⟨h1,h2⟩|⟨h1,_⟩
  ·rcases h1 with h1|⟨h1,h3⟩|⟨h1,_⟩
   ·exact .inl h1
   ·refine .inr (.inl ⟨h1,λ s' t' nu hg => ?_⟩)
    obtain ⟨b',s9⟩:=Option.isSome_iff_exists.1 nu;have bn:=s9;rw[GJ]at bn;by_cases o9:s'=s/\t'=m.own.n6 s
    ·simp only[n8,if_pos o9]at hg
     rw[hg]at qm;have:=qm.1
     omega
    ·rw[if_neg o9]at bn
     simp only[n8,if_neg o9]at hg;exact h3 s' t' (by rw[bn];rfl) hg
   ·cases h1
  ·refine .inr (.inl ⟨Nat.le_trans hm.size h1,λ s' t' nu hg => ?_⟩)
   rcases Ff s' t' b (Option.isSome_iff_exists.1 nu) hg with h3|h3
   ·omega
   ·exact h2 s0 t0 (by rw[ak];rfl) h3
  ·cases h1
 obtain ⟨wy,ku⟩:=AiA hm nc s ⟨b0.c7,b0.es⟩ (m'.ν s0 t0) hz (by
  cases hν:m'.ν s0 t0 with
  | none=>rw[hν]at qm;exact qm
  | some g =>
   rw[hν]at qm hR;obtain ⟨h1,arr,e,h2,h3⟩:=qm;refine ⟨h1,arr,e,h2,λ i cs hi j c hj => ?_⟩;obtain ⟨u,hu,bq⟩:=h3 i cs hi j c hj;refine ⟨u,hu,.rd ?_⟩;have yo:=bP (qE z7 i cs hi) j c hj;have qg:Rd m'.w (safe m.w.heap.size (safe B S m false) m') c u:=by
    cases bq with
    | rd h=>exact h
    | _=>unfold A6 at yo;exact yo.elim
   exact qg.clean hR yo)
 refine hK _ ⟨n8 m s (m'.ν s0 t0),m.own.put s ((m.own s).new ⟨b0.c7,b0.es⟩),m'.w⟩ rfl wy ku (.ca (.one (.row s (m.own.n6 s) b0.c7 0 b0.es.length ad cap (by show m.own.n6 s<AH.n6 (m.own.put s _) s;rw[XN,if_pos rfl];omega) ja si ha λ b1 xv => ?_)));have El:(m.own.put s ((m.own s).new ⟨b0.c7,b0.es⟩)).get s (m.own.n6 s)=some b1:=xv;rw[GJ,if_pos ⟨rfl,rfl⟩]at El;obtain rfl:=Option.some.inj El;refine ⟨rfl,?_⟩;rcases fx with h0|⟨g,arr,e,hg,pe,hh,hle⟩
 ·exact .inl h0
 ·exact .inr ⟨g,arr,e,by simp [n8,hg],pe,hh,hle⟩
theorem Vn {p:Bool} {f g:Nat} {cs:List AV} {v:Value} (h:CV B S m (.fn p f g cs) v) (hp:p=false\/cs=[]) : ∃ vs:List Value,v = .func (.func g) #[] vs.toArray/\CL B S m cs vs:=by
 cases h with
 | ca h=>cases h with
  | one h=>cases h with
   | rd h=>cases h
  | fn p f g cs vs hp h=>exact ⟨vs,rfl,h⟩
  | xp f g cs vs u7 h =>
   rcases hp with hp|hp
   ·cases hp
   ·exact absurd hp u7
theorem Ajv {f g:Nat} {cs:List AV} {v:Value} (h:CV B S m (.fn true f g cs) v) (u7:cs≠[]) : ∃ vs:List Value,v = .func (.func g) #[.agg vs.toArray] #[]/\CL B S m cs vs:=by
 cases h with
 | ca h=>cases h with
  | one h=>cases h with
   | rd h=>cases h
  | fn p f g cs vs hp h=>exact absurd (hp rfl) u7
  | xp f g cs vs u7 h=>exact ⟨vs,rfl,h⟩
theorem Afz {f:Nat} {x:Operand} {xs:Array Operand} {ts:Array TypeId} {vs:Array Value} (s8:o.op = .call ⟨.value x,xs,ts⟩) (hx:a.eval x = .func (.func f) #[] vs) {w:World} (h:(callFunc f (xs.map a.eval++vs)).run P w = .ok (.enter f (xs.map a.eval++vs)) w):(execOp a.eval o).run P w = .ok (.enter f (xs.map a.eval++vs)) w:=by
 simp [execOp,s8,resolve,Deferred.ofValue,hx,invoke];exact h
theorem Akf {C:Cl} (hC:HA P num C) (hm:BQ B S w0 m) (hs:CT B S m ρ a.eval) {x':AP} {ag:List AP} (h:BG P num o.op (.y7 x' ag)=true) {f:Nat} {cs:List AV} (hf:ρ x' = .fn false f (num f) cs) {r:AV} {w8:AH} (hr:C.mh f (ag.map ρ++cs) m.own=some (r,w8)):CY B S w0 P o a m (.jc r w8):=by
 obtain ⟨x,xs,ts,s8,xj,he⟩:=yP h;obtain ⟨hl,hx⟩:=gP hs he;obtain ⟨vs,hv,z7⟩:=Vn (hf ▸ hs x x' xj) (.inl rfl);have kz:(xs.map a.eval++vs.toArray)=(xs.toList.map a.eval++vs).toArray:=by cases xs;simp
 have jy:=hC.mh f (ag.map ρ++cs) m.own r w8 hr B S w0 m (xs.toList.map a.eval++vs) rfl hm (by simp [hl,z7.1]) (λ j c v hc hv=>by
  by_cases hj:j<ag.length
  ·rw[List.getElem?_append_left (by simpa using hj),List.getElem?_map]at hc
   rw[List.getElem?_append_left (by simpa [hl] using hj),List.getElem?_map]at hv;have hj2:j<xs.toList.length:=by rw[hl];exact hj
   rw[zE hj]at hc;rw[zE hj2]at hv;simp only[Option.map_some,Option.some.injEq]at hc hv;subst hc hv;exact hx j _ _ (zE hj2) (zE hj)
  ·rw[List.getElem?_append_right (by simpa using hj),List.length_map]at hc
   rw[List.getElem?_append_right (by simpa [hl] using hj),List.length_map,hl]at hv;exact .ca (.one (z7.2 _ c v hc hv)))
 intro K Q hK;unfold Oper.wp;rw[Afz s8 hv (hC.tt f _ _ _ hr _ _),kz];refine Calls.mono jy λ e w' ⟨u,m',kt,hw,q6,qf,ku,db⟩ => ?_
 subst kt hw;exact hK u m' q6 qf ku db
theorem Akc {C:Cl} (hC:HA P num C) (hm:BQ B S w0 m) (hs:CT B S m ρ a.eval) {x':AP} {ag:List AP} (h:BG P num o.op (.y7 x' ag)=true) {f:Nat} (hf:ρ x' = .fn true f (num f) []) {vs:List AV} {r:AV} (hv:(ag.map ρ).mapM (C8 m.own true)=some vs) (hr:C.pure f vs=some r):CY B S w0 P o a m (.val r):=by
 obtain ⟨x,xs,ts,s8,xj,he⟩:=yP h;obtain ⟨us,hu,z7⟩:=Vn (hf ▸ hs x x' xj) (.inr rfl);have hu0:us=[]:=List.eq_nil_of_length_eq_zero (by rw[<-z7.1];rfl);subst hu0;refine Acr hC hm hs he (λ w h => ?_) hv hr;have:=Afz (P:=P) (w:=w) s8 hu (by simpa using h)
 simpa using this
theorem ApB {f:Nat} {x:Operand} {xs:Array Operand} {ts:Array TypeId} {u:Value} (s8:o.op = .call ⟨.value x,xs,ts⟩) (hx:a.eval x = .func (.func f) #[u] #[]) {w:World} (h:(callFunc f (#[u]++xs.map a.eval)).run P w = .ok (.enter f (#[u]++xs.map a.eval)) w):(execOp a.eval o).run P w = .ok (.enter f (#[u]++xs.map a.eval)) w:=by
 simp [execOp,s8,resolve,Deferred.ofValue,hx,invoke];exact h
theorem Akb {C:Cl} (hC:HA P num C) (hm:BQ B S w0 m) (hs:CT B S m ρ a.eval) {x':AP} {ag:List AP} (h:BG P num o.op (.y7 x' ag)=true) {f:Nat} {c:AV} {cs:List AV} (hf:ρ x' = .fn true f (num f) (c::cs)) {vs:List AV} {r:AV} (hv:(AV.agg (c::cs)::ag.map ρ).mapM (C8 m.own true)=some vs) (hr:C.pure f vs=some r):CY B S w0 P o a m (.val r):=by
 obtain ⟨x,xs,ts,s8,xj,he⟩:=yP h;obtain ⟨us,hu,z7⟩:=Ajv (hf ▸ hs x x' xj) (by simp);obtain ⟨hl,hx⟩:=gP hs he;have kz:(#[Value.agg us.toArray]++xs.map a.eval)=(Value.agg us.toArray::xs.toList.map a.eval).toArray:=by cases xs;simp
 refine Acs hC hm (us:=Value.agg us.toArray::xs.toList.map a.eval) (as:=AV.agg (c::cs)::ag.map ρ) (by simp [hl]) (λ j v c' h1 h2 => ?_) (λ w h=>by
  rw[<-kz]at h ⊢;exact ApB s8 hu h) hv hr
 cases j with
 | zero =>
  simp only[List.getElem?_cons_zero,Option.some.injEq]at h1 h2;subst h1 h2;exact .ca (.agg _ _ z7)
 | succ j =>
  rw[List.getElem?_cons_succ,List.getElem?_map]at h1 h2;cases ox:xs.toList[j]? with
  | none=>simp [ox]at h1
  | some x =>
   cases tf:ag[j]? with
   | none=>simp [tf]at h2
   | some y =>
    simp only[ox,tf,Option.map_some,Option.some.injEq]at h1 h2;subst h1 h2;exact hx j x y ox tf
theorem Aku (hm:BQ B S w0 m) (hs:CT B S m ρ a.eval) {f:Nat} {x':AP} (h:BG P num o.op (.wi f x')=true) {c:AV} {cs:List AV} (hc:ρ x' = .agg (c::cs)) :
  CY B S w0 P o a m (.val (.fn true f (num f) (c::cs))):=by
 obtain ⟨x,s8,he⟩:=AnL h;obtain ⟨vs,hv,z7⟩:=qJ (hc ▸ hs x x' he);refine EH hm (u := .func (.func (num f)) #[.agg vs.toArray] #[]) ?_ (.ca (.xp f (num f) (c::cs) vs (by simp) z7));simp [execOp,s8,Instr.makeFunc,hv]
theorem Rd.to1 {w:World} {R R':Bool->Nat->Prop} (hR : ∀ l b,b<w.heap.size->R l b -> ∀ l',R' l' b) {c:AV} {v:Value} (h:Rd w R c v) (hq:GZ c=true):Rd w R' (kY c) v:=by
 cases h with
 | int k n=>exact .int k n
 | bool b=>exact .bool b
 | str s=>simp [GZ]at hq
 | emp=>simp [GZ]at hq
 | nm l a cap=>exact .nm false a cap
 | sl l es b o c7 cap u u7 hp h1 fc hz z7 hr =>
  obtain ⟨e,c,he,gx⟩:=mX u7 hp hz;have hb:b<w.heap.size:=gH (z7 0 e he 0 c gx);exact .sl false es b o c7 cap u u7 hp (hR l b hb h1 false) fc hz z7 λ i e he j c hj=>(hr i e he j c hj).mono (λ l b hb h=>hR l b hb h l) (λ_ _ _ _=>rfl)
theorem Rd.Cn {w:World} {R R':Bool->Nat->Prop} (hR : ∀ b,b<w.heap.size->R false b->R' true b) {c:AV} {v:Value} (h:Rd w R c v) (hc:A6 c) (hf:lH c):Rd w R' (nG c) v:=by
 cases h with
 | int k n=>exact .int k n
 | bool b=>exact .bool b
 | str s=>exact hf.elim
 | emp=>exact hf.elim
 | nm l a cap=>exact .nm true a cap
 | sl l es b o c7 cap u u7 hp h1 fc hz z7 hr =>
  unfold A6 at hc;obtain ⟨rfl,hc⟩:=hc;obtain ⟨e,c,he,gx⟩:=mX u7 hp hz;have hb:b<w.heap.size:=gH (z7 0 e he 0 c gx);refine .sl true es b o c7 cap u u7 hp (hR b hb h1) fc hz z7 λ i e he j c hj => ?_
  have Sc:=hf e (zM he) c (zM hj);have hrr:=hr i e he j c hj;generalize u i j=vv at hrr ⊢;cases hrr<;>first|exact .int _ _|exact .bool _|(simp [AeR]at Sc)
theorem yW : ∀ l:List AV,YC l=l.map IL
 | []=>by simp [YC]
 | c::r=>by rw[YC,yW r];rfl
theorem Aeu : ∀ l:List (List AV),nE l=l.map λ e=>e.map IL
 | []=>by simp [nE]
 | c::r=>by rw[nE,Aeu r,yW];rfl
theorem Rd.Co {w:World} {R R':Bool->Nat->Prop} (hR : ∀ b,b<w.heap.size->R false b->R' true b) {c:AV} {v:Value} (h:Rd w R c v):A6 c->Rd w R' (IL c) v:=by
 induction h with
 | int k n=>intro _;exact .int k n
 | bool b=>intro _;exact .bool b
 | str s=>intro _;exact .str s
 | emp b a cap h=>intro _;exact .emp b a cap h
 | nm l a cap=>intro _;exact .nm true a cap
 | sl l es b o c7 cap u u7 hp h1 fc hz z7 hr ih =>
  intro hc;unfold A6 at hc;obtain ⟨rfl,hc⟩:=hc;obtain ⟨e,c,he,gx⟩:=mX u7 hp hz;have hb:b<w.heap.size:=gH (z7 0 e he 0 c gx);have ji : ∀ (i:Nat) (e':List AV),(es.map λ e:List AV=>e.map IL)[i]? = some e' -> ∃ e,es[i]? = some e/\e'=e.map IL:=λ i e' h=>by
   rw[List.getElem?_map]at h;cases hi:es[i]? with
   | none=>simp [hi]at h
   | some e=>exact ⟨e,rfl,by simpa [hi] using h.symm⟩
  have ym : ∀ (e:List AV) (j:Nat) (c':AV),(e.map IL)[j]? = some c' -> ∃ c,e[j]? = some c/\c'=IL c:=λ e j c' h=>by
   rw[List.getElem?_map]at h;cases hi:e[j]? with
   | none=>simp [hi]at h
   | some c=>exact ⟨c,rfl,by simpa [hi] using h.symm⟩
  have key:=Rd.sl (w:=w) (R:=R') true (es.map λ e:List AV=>e.map IL) b o c7 cap u (by simpa using u7) hp (hR b hb h1) (by simpa using fc)
   (λ e' kt=>by
    obtain ⟨e,he,rfl⟩:=List.mem_map.1 kt;rw[List.length_map];exact hz e he)
   (λ i e' hi j c' hj=>by
    obtain ⟨e,he,rfl⟩:=ji i e' hi;obtain ⟨c,Bk,rfl⟩:=ym e j c' hj;exact z7 i e he j c Bk)
   (λ i e' hi j c' hj=>by
    obtain ⟨e,he,rfl⟩:=ji i e' hi;obtain ⟨c,Bk,rfl⟩:=ym e j c' hj;exact ih i e he j c Bk (bP (qE hc i e he) j c Bk))
  rw[List.length_map]at key;rw[IL,Aeu];exact key
theorem Akd {C:Cl} (hC:HA P num C) (hm:BQ B S w0 m) (hs:CT B S m ρ a.eval) {f:Nat} {ag:List AP} (h:BG P num o.op (.w9 f ag)=true) (hq:(ag.map ρ).all dq=true) {r:AV} (hr:C.pure f ((ag.map ρ).map Av)=some r) (yu:TT r\/iY r):CY B S w0 P o a m (.val (YD r)):=by
 obtain ⟨xs,ts,s8,he⟩:=yO (AnA h);obtain ⟨hl,hx⟩:=gP hs he;have kz:(xs.map a.eval)=(xs.toList.map a.eval).toArray:=by cases xs;simp
 have hR : ∀ l b,b<m.w.heap.size->safe B S m l b -> ∀ l',safe m.w.heap.size (safe B S m true) ⟨λ_ _=>none,AH.emp,m.w⟩ l' b:=λ l b hb h l' => .inl ⟨Oh h,hb⟩
 have hcell : ∀ (c:AV) (v:Value),CC B S m c v->GZ c=true->Rd m.w (safe m.w.heap.size (safe B S m true) ⟨λ_ _=>none,AH.emp,m.w⟩) (kY c) v:=λ c v hc hd=>by
  cases hc with
  | rd hr=>exact hr.to1 hR hd
  | nil=>exact .nm false none 0
  | row=>simp [GZ]at hd
  | ptr=>simp [GZ]at hd
  | bu=>simp [GZ]at hd
 have oe : ∀ (j:Nat) (c:AV) (v:Value),((ag.map ρ).map Av)[j]? = some c->(xs.toList.map a.eval)[j]? = some v->CA m.w.heap.size (safe B S m true) ⟨λ_ _=>none,AH.emp,m.w⟩ c v:=by
  intro j c v hc yd;rw[List.getElem?_map,List.getElem?_map]at hc;rw[List.getElem?_map]at yd;cases ox:xs.toList[j]? with
  | none=>simp [ox]at yd
  | some x =>
   cases tf:ag[j]? with
   | none=>simp [tf]at hc
   | some y =>
    simp [ox]at yd;simp [tf]at hc;subst yd hc;have db:=hx j x y ox tf;have hd:dq (ρ y)=true:=List.all_eq_true.1 hq _ (List.mem_map_of_mem (zM tf));generalize ρ y=cy at db hd ⊢;generalize a.eval x=vx at db ⊢;cases db with
    | any=>simp [dq,GZ]at hd
    | m9=>simp [dq,GZ]at hd
    | ca sd =>
     cases sd with
     | one Bj =>
      have se:GZ cy=true/\Av cy=kY cy:=by
       cases Bj with
       | rd hr=>cases hr<;>exact ⟨hd,rfl⟩
       | _=>exact ⟨hd,rfl⟩
      rw[se.2];exact .one (.rd (hcell _ _ Bj se.1))
     | agg cs vs z7 =>
      refine .agg (cs.map kY) vs ⟨by simpa using z7.1,λ k c' v' dk te => ?_⟩;rw[List.getElem?_map]at dk;cases tz:cs[k]? with
      | none=>simp [tz]at dk
      | some c0 =>
       simp [tz]at dk;subst dk;exact .rd (hcell c0 v' (z7.2 k c0 v' tz te) (List.all_eq_true.1 hd _ (zM tz)))
     | fn=>simp [dq,GZ]at hd
     | xp=>simp [dq,GZ]at hd
 have jy:=hC.pure f _ r hr (safe B S m true) m.w (xs.toList.map a.eval) (by simp [hl]) oe;intro K Q hK;unfold Oper.wp;rw[sW s8 (hC.yj f _ r hr _ _),kz];refine Calls.mono jy λ e w' ⟨u,kt,nc,db,z7⟩ => ?_
 subst kt;obtain ⟨qf,ku⟩:=grow hm nc;refine hK u ⟨m.ν,m.own,w'⟩ rfl qf ku ?_;have na : ∀ b,b<w'.heap.size->safe m.w.heap.size (safe B S m true) ⟨λ_ _=>none,AH.emp,w'⟩ false b->safe B S ⟨m.ν,m.own,w'⟩ true b:=λ b hb Ca=>by
  rcases Ca with ⟨h1,h2⟩|⟨h1,_⟩|⟨h1,_⟩
  ·exact ku.Dv true b h2 h1
  ·refine .inr (.inl ⟨Nat.le_trans hm.size h1,λ s t nu hg => ?_⟩)
   obtain ⟨b',s9⟩:=Option.isSome_iff_exists.1 nu;obtain ⟨_,arr,e,hh⟩:=hm.ge ⟨b',s9⟩ hg;have:=(Array.getElem?_eq_some_iff.1 hh).1
   omega
  ·cases h1
 by_cases ik:TT r
 ·rw[yX ik]
  rcases vO db z7 with Cw|⟨cs,vs,rfl,_⟩
  ·rcases Cw with qg|⟨cs,vs,rfl,rfl,ma,hh⟩
   ·have e1:Ch r=nG r/\lH r:=by cases qg<;>exact ⟨rfl,ik⟩
    rw[show CG.valOf (.val (Ch r)) m.own=Ch r from rfl,e1.1];exact .ca (.one (.rd (qg.Cn na z7 e1.2)))
   ·unfold A6 at z7
    refine .ca (.agg (cs.map nG) vs ⟨by simpa using ma,λ k c' v' dk te => ?_⟩);rw[List.getElem?_map]at dk;cases tz:cs[k]? with
    | none=>simp [tz]at dk
    | some c0 =>
     simp [tz]at dk;subst dk;exact .rd ((hh k c0 v' tz te).Cn na (bP z7 k c0 tz) (ik c0 (zM tz)))
  ·exact ik.elim
 ·rw[Aev ik]
  have hd:=yu.resolve_left ik;rcases vO db z7 with Cw|⟨cs,vs,rfl,_⟩
  ·rcases Cw with qg|⟨cs,vs,rfl,rfl,ma,hh⟩
   ·have e1:bW r=IL r:=by cases qg<;>rfl
    rw[show CG.valOf (.val (bW r)) m.own=bW r from rfl,e1];exact .ca (.one (.rd (qg.Co na z7)))
   ·unfold A6 at z7
    rw[show CG.valOf (.val (bW (.agg cs))) m.own = .agg (YC cs) from rfl,yW];refine .ca (.agg (cs.map IL) vs ⟨by simpa using ma,λ k c' v' dk te => ?_⟩);rw[List.getElem?_map]at dk;cases tz:cs[k]? with
    | none=>simp [tz]at dk
    | some c0 =>
     simp [tz]at dk;subst dk;exact .rd ((hh k c0 v' tz te).Co na (bP z7 k c0 tz))
  ·exact hd.elim
end
end Go.e9

namespace Go.e9
open Go.RowKit
section
variable {B:Nat} {S:Nat->Prop} {w0:World} {m:M}
variable {P:Program} {num:Nat->Nat} {o:Oper} {a:Act} {ρ:AP->AV} {C:Cl} {g9:List Nat}
theorem AkR (hm:BQ B S w0 m) (hs:CT B S m ρ a.eval) {mx:Bool} {ag:List AP} (h:BG P num o.op (.mm mx ag)=true) {v r:AV} {l:List AV} (hx:ag.map ρ=v::l) (hv:WN mx v l=some r):CY B S w0 P o a m (.val r):=by
 by_cases hi : ∃ k n,v = .int k n
 ·exact AkQ hm hs h hx hv hi
 ·cases l with
  | cons u q =>
   simp only[WN]at hv;exfalso;cases v<;>first|(exact hi ⟨_,_,rfl⟩)|(simp [dH]at hv)
  | nil =>
   simp only[WN,Option.some.injEq]at hv;subst hv;obtain ⟨xs,ts,s8,he⟩:=Aec h;cases ag with
   | nil=>simp at hx
   | cons y yr =>
    simp only[List.map_cons,List.cons.injEq,List.map_eq_nil_iff]at hx;obtain ⟨rfl,rfl⟩:=hx;obtain ⟨xl⟩:=xs;cases xl with
    | nil=>simp [EI]at he
    | cons x xr =>
     simp only[EI,Bool.and_eq_true]at he;cases xr with
     | cons=>simp [EI]at he
     | nil =>
      refine EH hm (u:=a.eval x) ?_ (hs x y he.1);cases mx<;>simp [execOp,s8,resolve,invoke,builtin,Builtin.min_,Builtin.max_]
theorem AdB (o:AH) (l:List Nat) (s t:Nat) (b:ED) (h:(o.z0 l).get s t=some b):o.get s t=some b:=by
 induction l with
 | nil=>exact h
 | cons x r ih =>
  unfold AH.get AH.z0 at h;by_cases hs:s=x
  ·simp [hs]at h
  ·simp only[if_neg hs]at h
   exact ih h
theorem An8 {o:AH} {l:List Nat} {s t i j n:Nat} {cs:List AV} (h:(o.z0 l).uj s t i j n=some cs):o.uj s t i j n=some cs:=by
 unfold AH.uj at *;cases hg:(o.z0 l).get s t with
 | none=>simp [hg]at h
 | some b =>
  rw[AdB o l s t b hg];simpa [hg] using h
theorem Alh {o:AH} {l:List Nat} {v:AV} {es:List (List AV)} (h:ET (o.z0 l) v=some es):ET o v=some es:=by
 cases v with
 | ib v=>cases v<;>exact h
 | row s t z off len =>
  simp only[ET]at h ⊢;cases hg:(o.z0 l).get s t with
  | none=>simp [hg]at h
  | some b =>
   rw[AdB o l s t b hg];simpa [hg] using h
 | _=>exact h
theorem kC {α β:Type} {f g:α->Option β} (hfg : ∀ x y,f x=some y->g x=some y) : ∀ {l:List α} {l':List β},l.mapM f=some l'->l.mapM g=some l'
 | [],l',h=>by simpa using h
 | x::r,l',h=>by
  simp only[List.mapM_cons,Option.bind_eq_bind,Option.pure_def]at h ⊢;cases hx:f x with
  | none=>simp [hx]at h
  | some y =>
   cases hr:r.mapM f with
   | none=>simp [hx,hr]at h
   | some r' =>
    simp [hx,hr]at h;simp [hfg x y hx,kC hfg hr,h]
theorem Mt (o:AH) (l:List Nat) (b:Bool) : ∀ (d:Nat) (c c':AV),snap (o.z0 l) b d c=some c'->snap o b d c=some c'
 | 0,c,c',h=>by cases c<;>simp_all [snap]
 | d+1,c,c',h=>by
  cases c<;>first|(simp_all [snap];done)|skip
  rename_i s t z off len;simp only[snap]at h ⊢;cases he:ET (o.z0 l) (.row s t z off len) with
  | none=>simp [he]at h
  | some es =>
   simp only[he]at h;rw[Alh he];simp only[Option.map_eq_some_iff]at h ⊢;obtain ⟨es',h1,h2⟩:=h;exact ⟨es',kC (λ x y hx=>kC (Mt o l b d) hx) h1,h2⟩
theorem AfZ (o:AH) (l:List Nat) (b:Bool) (c c':AV) (h:C8 (o.z0 l) b c=some c'):C8 o b c=some c':=by
 cases c<;>first|exact Mt o l b 6 _ _ h|skip
 simp only[C8,Option.map_eq_some_iff]at h ⊢;obtain ⟨cs,h1,h2⟩:=h;exact ⟨cs,kC (Mt o l b 6) h1,h2⟩
theorem Ap2 (o:AH) (l:List Nat) (b:Bool) (c c':AV) (h:bZ (o.z0 l) b c=some c'):bZ o b c=some c':=by
 rcases Classical.em (c = .nil) with rfl|hc
 ·exact h
 ·have e : ∀ o:AH,bZ o b c=C8 o b c:=λ o=>by cases c<;>first|rfl|exact (hc rfl).elim
  rw[e]at h ⊢;exact AfZ o l b _ _ h
theorem Aoj {o:AH} {l:List Nat} {b:Bool} {xs vs:List AV} (h:xs.mapM (bZ (o.z0 l) b)=some vs):xs.mapM (bZ o b)=some vs:=kC (Ap2 o l b) h
theorem Aoh {o:AH} {l:List Nat} {b:Bool} {xs vs:List AV} (h:xs.mapM (C8 (o.z0 l) b)=some vs):xs.mapM (C8 o b)=some vs:=kC (AfZ o l b) h
theorem Aqf {own w8:AH} {s t i j:Nat} {vs:List AV} (h:own.pz s t i j vs=some w8):own.put s (w8 s)=w8:=by
 unfold AH.pz at h;cases hg:own.get s t with
 | none=>simp [hg]at h
 | some b =>
  simp only[hg]at h;cases he:b.es[i]? with
  | none=>simp [he]at h
  | some cs =>
   simp only[he]at h;split at h
   ·obtain rfl:=Option.some.inj h
    rw[AH.o4]
   ·cases h
theorem Alf (hC:HA P num C) (hm:BQ B S w0 m) (hs:CT B S m ρ a.eval) {Fu:D8} (n7:BG P num o.op Fu=true) {E:CG} (h:m6 C g9 ρ m.own Fu=some E):CY B S w0 P o a m E:=by
 cases Fu with
 | c6 x=>simp only[m6,Option.some.injEq]at h;subst h;exact AkS hm hs n7
 | ff s z=>simp only[m6,Option.some.injEq]at h;subst h;exact AkY hm n7
 | pick c x y =>
  simp only[m6]at h;split at h
  ·rename_i hc;simp only[Option.some.injEq]at h;subst h;exact Zw hm hs n7 hc
  ·rename_i hc;simp only[Option.some.injEq]at h;subst h;exact Zw hm hs n7 hc
  ·cases h
 | bin f x y =>
  simp only[m6]at h;split at h
  ·rename_i k n k' n' hx hy
   simp only[Option.map_eq_some_iff]at h;obtain ⟨v,hv,rfl⟩:=h;exact Aj6 hm hs n7 hx hy hv
  ·cases h
 | wk ne n x y =>
  simp only[m6]at h;split at h
  ·rename_i cs ds hx hy
   split at h
   ·rename_i a b ha hb
    split at h
    ·rename_i hn
     simp only[Option.some.injEq]at h;subst h;exact Aj0 hm hs n7 hx hy ha hb hn
    ·cases h
   ·cases h
  ·cases h
 | beq ne x y =>
  simp only[m6]at h;split at h
  ·rename_i b b' hx hy
   simp only[Option.some.injEq]at h;subst h;exact Aj5 hm hs n7 hx hy
  ·cases h
 | un f x =>
  simp only[m6,Option.map_eq_some_iff]at h;obtain ⟨v,hv,rfl⟩:=h;exact AkX hm hs n7 hv
 | conv k x =>
  simp only[m6]at h;split at h
  ·rename_i k' n hx
   simp only[Option.some.injEq]at h;subst h;exact Akh hm hs n7 hx
  ·cases h
 | box s x =>
  simp only[m6]at h;split at h
  ·rename_i cs kr
   simp only[Option.some.injEq]at h;subst h;exact Aj7 hm hs n7 kr
  ·cases h
 | alloc s z=>simp only[m6,Option.some.injEq]at h;subst h;exact Aj1 hm n7
 | build z ps =>
  simp only[m6,Option.map_eq_some_iff]at h;obtain ⟨cs,kr,rfl⟩:=h;exact Aj9 hm hs n7 kr
 | m4 s c7 ps =>
  simp only[m6]at h;split at h
  ·rename_i es ni
   split at h
   ·rename_i hz
    simp only[Option.some.injEq]at h;subst h;exact Aj8 hm hs n7 ni hz
   ·cases h
  ·cases h
 | a7 x off =>
  simp only[m6]at h;split at h
  ·rename_i s t i j hx
   simp only[Option.some.injEq]at h;subst h;exact Akk hm hs n7 hx
  ·rename_i cs hx
   simp only[Option.some.injEq]at h;subst h;exact Akj hm hs n7 hx
  ·cases h
 | ry x off n agg =>
  simp only[m6]at h;split at h
  ·rename_i cs hx
   split at h
   ·rename_i ds hp
    simp only[Option.map_eq_some_iff]at h;obtain ⟨v,hv,rfl⟩:=h;exact Akl hm hs n7 hx hp hv
   ·cases h
  ·cases h
 | b9 arr c7 x i =>
  simp only[m6]at h;split at h
  ·rename_i k n hi
   split at h
   ·rename_i len s t i' j hx
    split at h
    ·rename_i hn
     simp only[Option.some.injEq]at h;subst h;exact Akm hm hs n7 hi hx hn.1 hn.2
    ·cases h
   ·rename_i len cs hx
    split at h
    ·rename_i hn
     simp only[Option.some.injEq]at h;subst h;exact Akn hm hs n7 hi hx hn.1 hn.2
    ·cases h
   ·rename_i s t z off len hx
    split at h
    ·rename_i hn
     simp only[Option.some.injEq]at h;subst h;exact Ako hm hs n7 hi hx hn.1 hn.2.1 hn.2.2
    ·cases h
   ·rename_i l es hx
    split at h
    ·rename_i h0
     split at h
     ·rename_i cs kr
      split at h
      ·rename_i hz
       simp only[Option.some.injEq]at h;subst h;exact Akp hm hs n7 hi hx h0 kr hz
      ·cases h
     ·cases h
    ·cases h
   ·cases h
  ·cases h
 | ld agg n x =>
  simp only[m6]at h;split at h
  ·rename_i s t i j hx
   split at h
   ·rename_i cs kr
    simp only[Option.map_eq_some_iff]at h;obtain ⟨v,hv,rfl⟩:=h;exact Akr hm hs n7 hx (An8 kr) hv
   ·cases h
  ·rename_i cs hx
   split at h
   ·rename_i ds hp
    simp only[Option.map_eq_some_iff]at h;obtain ⟨v,hv,rfl⟩:=h;exact Akq hm hs n7 hx hp hv
   ·cases h
  ·cases h
 | st n x v =>
  simp only[m6]at h;split at h
  ·rename_i s t i j vs hx me
   split at h
   ·rename_i hn
    simp only[Option.map_eq_some_iff]at h;obtain ⟨w8,ho,rfl⟩:=h;exact Acv hm hs n7 hx me hn ho
   ·cases h
  ·cases h
 | mk s c7 bytes zero l c =>
  simp only[m6]at h;split at h
  ·rename_i kl a' kc b' hl hc
   split at h
   ·rename_i hn
    simp only[Option.some.injEq]at h;subst h;exact Akt hm hs n7 hl hc hn.1 hn.2.1 hn.2.2.1 hn.2.2.2.1 hn.2.2.2.2
   ·cases h
  ·cases h
 | ke c7 x lo hi =>
  simp only[m6]at h;have bnd : ∀ (d:Nat) (y:Option AP) (q:Nat),(match y with|none=>some d|some o=>match ρ o with | .int _ n=>if 0<=n/\n<=d then some n.toNat else none|_=>none)=some q -> ∃ n:Int,IE ρ d y=some n/\0<=n/\n<=d/\q=n.toNat:=λ d y q hq=>by
   cases y with
   | none=>simp only[Option.some.injEq]at hq;subst hq;exact ⟨d,rfl,by omega,by omega,by simp⟩
   | some y =>
    simp only at hq;cases hy:ρ y with
    | int k n =>
     simp only[hy]at hq;split at hq
     ·rename_i hn
      simp only[Option.some.injEq]at hq;subst hq;exact ⟨n,by simp [IE,hy],hn.1,hn.2,rfl⟩
     ·cases hq
    | _=>simp [hy]at hq
  have Hj : ∀ (y:Option AP) (q:Nat),(match y with|none=>some 0|some o=>match ρ o with | .int _ n=>if 0<=n then some n.toNat else none|_=>none)=some q -> ∃ n:Int,IE ρ 0 y=some n/\0<=n/\q=n.toNat:=λ y q hq=>by
   cases y with
   | none=>simp only[Option.some.injEq]at hq;subst hq;exact ⟨0,rfl,by omega,by simp⟩
   | some y =>
    simp only at hq;cases hy:ρ y with
    | int k n =>
     simp only[hy]at hq;split at hq
     ·rename_i hn
      simp only[Option.some.injEq]at hq;subst hq;exact ⟨n,by simp [IE,hy],hn,rfl⟩
     ·cases hq
    | _=>simp [hy]at hq
  have Hk : ∀ (y:Option AP) (q:Nat),(match y with|none=>some 0|some o=>match ρ o with | .int _ n=>if n=0 then some 0 else none|_=>none)=some q->IE ρ 0 y=some 0:=λ y q hq=>by
   cases y with
   | none=>rfl
   | some y =>
    simp only at hq;cases hy:ρ y with
    | int k n =>
     simp only[hy]at hq;split at hq
     ·rename_i hn
      subst hn;simp [IE,hy]
     ·cases hq
    | _=>simp [hy]at hq
  split at h
  ·rename_i l es hx
   split at h
   ·rename_i q1 q2 h1 h2
    split at h
    ·rename_i hq
     simp only[Option.some.injEq]at h;subst h;obtain ⟨n1,b1,c1,rfl⟩:=Hj _ _ h1;obtain ⟨n2,b2,c2,c3,rfl⟩:=bnd _ _ _ h2;exact AkW hm hs n7 hx b1 b2 c1 (by omega) c3 hq.2
    ·cases h
   ·cases h
  ·rename_i hx
   split at h
   ·rename_i q1 q2 h1 h2
    simp only[Option.some.injEq]at h;subst h;exact AkU hm hs n7 hx (Hk _ _ h1) (Hk _ _ h2)
   ·cases h
  ·rename_i s t z off len hx
   split at h
   ·rename_i q1 q2 h1 h2
    split at h
    ·rename_i hq
     simp only[Option.some.injEq]at h;subst h;obtain ⟨n1,b1,c1,rfl⟩:=Hj _ _ h1;obtain ⟨n2,b2,c2,c3,rfl⟩:=bnd _ _ _ h2;exact AkV hm hs n7 hx b1 b2 c1 (by omega) c3 hq.2
    ·cases h
   ·cases h
  ·cases h
 | ext x i =>
  simp only[m6]at h;split at h
  ·rename_i vs hx
   simp only[Option.map_eq_some_iff]at h;obtain ⟨v,hv,rfl⟩:=h;exact Aki hm hs n7 hx hv
  ·cases h
 | len x =>
  simp only[m6]at h;split at h
  ·rename_i n hn
   simp only[Option.some.injEq]at h;subst h;exact Aks hm hs n7 hn
  ·cases h
 | mm mx xs =>
  simp only[m6]at h;split at h
  ·cases h
  ·rename_i v r hx
   simp only[Option.map_eq_some_iff]at h;obtain ⟨q,hq,rfl⟩:=h;exact AkR hm hs n7 hx hq
 | app s c7 bytes x y =>
  simp only[m6]at h;split at h
  ·rename_i ys zw
   split at h
   ·rename_i hz
    split at h
    ·rename_i s' t z len hx
     split at h
     ·rename_i b hb
      split at h
      ·rename_i hn
       obtain ⟨n1,rfl,n3,n4,n5⟩:=hn;simp only[Option.some.injEq]at h;subst h;exact Aj3 hm hs n7 zw hz hx hb n1 n3 n4 n5
      ·cases h
     ·cases h
    ·rename_i hx
     split at h
     ·rename_i hn
      simp only[Option.some.injEq]at h;subst h;exact Aj2 hm hs n7 zw hz hx hn.1 hn.2
     ·cases h
    ·cases h
   ·cases h
  ·cases h
 | call f xs =>
  simp only[m6]at h;split at h
  ·rename_i vs me
   simp only[Option.map_eq_some_iff]at h;obtain ⟨r,hr,rfl⟩:=h;exact Aka hC hm hs n7 (Aoh me) hr
  ·cases h
 | m7 f xs =>
  simp only[m6,Option.map_eq_some_iff]at h;obtain ⟨r,hr,rfl⟩:=h;exact Zu hC hm hs n7 hr
 | xm ne x =>
  simp only[m6]at h;split at h
  ·rename_i hx
   simp only[Option.some.injEq]at h;subst h;exact qS hm hs n7 (b:=true) λ v hv=>by rw[hx]at hv;exact ⟨none,0,0,eA hv,rfl⟩
  ·rename_i b hx
   simp only[Option.some.injEq]at h;subst h;exact qS hm hs n7 (b:=b) λ v hv=>by
    rw[hx]at hv;obtain ⟨ad,c,h1,h2⟩:=Vm hv;exact ⟨ad,0,c,h1,h2⟩
  ·rename_i hx
   simp only[Option.some.injEq]at h;subst h;exact qS hm hs n7 (b:=false) λ v hv=>by rw[hx]at hv;exact AjD hv
  ·rename_i hx
   simp only[Option.some.injEq]at h;subst h;exact qS hm hs n7 (b:=false) λ v hv=>by rw[hx]at hv;exact AjC hv
  ·cases h
 | bad =>
  have h:(none:Option CG)=some E:=h;cases h
 | ju x =>
  simp only[m6]at h;split at h
  ·rename_i hx
   simp only[Option.some.injEq]at h;subst h;exact Akg hm hs n7 hx
  ·cases h
 | gj s f xs =>
  simp only[m6,Option.map_eq_some_iff]at h;obtain ⟨p,hp,rfl⟩:=h;exact Zu hC hm hs (AnC n7) (qA.1 hp m.own rfl)
 | ru s c7 bytes x y =>
  simp only[m6]at h;split at h
  ·rename_i k n hx hy
   split at h
   ·rename_i hn
    simp only[Option.some.injEq]at h;subst h;exact Aj4 hm hs n7 hx hy hn.1 hn.2.1 hn.2.2
   ·cases h
  ·cases h
 | lu tb x =>
  simp only[m6]at h;split at h
  ·rename_i k n hx
   split at h
   ·rename_i h0
    split at h
    ·rename_i v hv
     simp only[Option.some.injEq]at h;subst h;exact AkT hm hs n7 hx h0 hv
    ·cases h
   ·cases h
  ·cases h
 | um p f xs =>
  simp only[m6,Option.map_eq_some_iff]at h;obtain ⟨cs,kr,rfl⟩:=h;rw[hC.num];exact Akv hm hs n7 kr
 | wi f x =>
  simp only[m6]at h;split at h
  ·rename_i c cs hx
   simp only[Option.some.injEq]at h;subst h;rw[hC.num];exact Aku hm hs n7 hx
  ·cases h
 | w9 f xs =>
  simp only[m6]at h;split at h
  ·rename_i hq
   split at h
   ·rename_i r hr
    split at h
    ·rename_i ik
     simp only[Option.some.injEq]at h;subst h;exact Akd hC hm hs n7 hq hr ik
    ·cases h
   ·cases h
  ·cases h
 | bm s f xs =>
  simp only[m6]at h;split at h
  ·rename_i vs me
   simp only[Option.map_eq_some_iff]at h;obtain ⟨⟨z,es⟩,hr,rfl⟩:=h;exact Ake hC hm hs n7 (Aoj me) hr
  ·cases h
 | rm s n x v =>
  simp only[m6]at h;split at h
  ·rename_i s' t i j vs hx me
   split at h
   ·rename_i hn
    obtain ⟨rfl,hn⟩:=hn;simp only[Option.map_eq_some_iff]at h;obtain ⟨w8,ho,rfl⟩:=h;have:=Acv hm hs (AnU n7) hx me hn ho
    intro K Q hK;refine this K Q λ u m' h1 h2 h3 h4=>hK u m' ?_ h2 h3 h4
    rw[h1];exact (Aqf ho).symm
   ·cases h
  ·cases h
 | y7 x xs =>
  simp only[m6]at h;split at h
  ·rename_i p f g cs hx
   split at h
   ·rename_i hg
    rw[hC.num]at hg;subst hg;split at h
    ·split at h
     ·rename_i vs me
      simp only[Option.map_eq_some_iff]at h;obtain ⟨r,hr,rfl⟩:=h;exact Akc hC hm hs n7 hx me hr
     ·cases h
    ·simp only[Option.map_eq_some_iff]at h
     obtain ⟨r,hr,rfl⟩:=h;exact Akf hC hm hs n7 hx hr
    ·split at h
     ·rename_i vs me
      simp only[Option.map_eq_some_iff]at h;obtain ⟨r,hr,rfl⟩:=h;exact Akb hC hm hs n7 hx me hr
     ·cases h
   ·cases h
  ·cases h
end
end Go.e9

namespace Go.e9
open Go.RowKit
def EP (T:Nat->AV):AP->AV
 | .t n=>T n
 | .c v=>v
def OX (T:Nat->AV) (d:Option Nat) (v:AV):Nat->AV:=λ j=>if d=some j then v else T j
def XR (T:Nat->AV):Option (Nat × Bool)->Option Bool
 | none=>some true
 | some (g,want)=>match T g with
  | .bool b=>some (b == want)
  | .m9 []=>some false
  | _=>none
theorem Yz (st:St):st.ev=EP (m8 st.tm):=by funext x;cases x<;>rfl
theorem AmT (st:St) (g:Option (Nat × Bool)):FX st g=XR (m8 st.tm) g:=rfl
theorem Yi (st:St) (d:Option Nat) (v:AV):m8 (st.dst d v).tm=OX (m8 st.tm) d v:=by
 cases d with
 | none=>funext j;simp [St.dst,OX]
 | some d =>
  funext j
  simp only[St.dst,OX,oN];by_cases h:j=d
  ·simp [h]
  ·simp [h,Ne.symm h]
theorem AiH (st:St) (d:Option Nat) (E:CG):m8 (st.app d E).tm=OX (m8 st.tm) d (E.valOf st.own):=by
 cases E<;>simp only[St.app,CG.valOf]<;>exact Yi st d _
theorem Yj (st:St) (d:Option Nat) (v:AV):(st.dst d v).own=st.own:=by cases d<;>rfl
theorem AiG (st:St) (d:Option Nat) (E:CG):(st.app d E).own=E.ea st.own:=by
 cases E with
 | val v=>simp only[St.app,CG.ea];exact Yj st d v
 | _=>rfl
section
variable {B:Nat} {S:Nat->Prop} {w0:World} {m0:M} {N:Nat}
variable {P:Program} {num:Nat->Nat} {C:Cl} {Q:Exit->Act->World->Prop}
structure F4 (B:Nat) (S:Nat->Prop) (w0:World) (m0:M) (N:Nat) (T:Nat->AV) (m:M) (a:Act):Prop where
 mem:BQ B S w0 m
 ext:DQ B S m0 m
 tm : ∀ i,CV B S m (T i) (a.tmps.getD i undef)
 size:a.tmps.size=N
 defers:a.defers=[]
theorem F4.put {T:Nat->AV} {m m':M} {a:Act} (h:F4 B S w0 m0 N T m a) (d:Option Nat) (hd : ∀ k,d=some k->k<N) {v:AV} {u:Value} (hm:BQ B S w0 m') (he:DQ B S m m') (hc:CV B S m' v u):F4 B S w0 m0 N (OX T d v) m' (a.put d u):=by
 refine ⟨hm,h.ext.trans he,λ i => ?_,?_,?_⟩
 ·cases d with
  | none=>simpa [OX,Act.put] using he.cv (h.tm i)
  | some k =>
   have hk:k<a.tmps.size:=by rw[h.size];exact hd k rfl
   by_cases Fc:i=k
   ·subst Fc
    simp only[OX,if_true,Act.put];simpa [Array.getD,hk] using hc
   ·have u7 : ¬ (some k=some i):=λ e=>Fc (by simpa using e.symm)
    simp only[OX,if_neg u7,Act.put];have:(a.tmps.setIfInBounds k u).getD i undef=a.tmps.getD i undef:=by
     simp [Array.getElem?_setIfInBounds_ne (Ne.symm Fc)]
    rw[this];exact he.cv (h.tm i)
 ·cases d<;>simp [Act.put,h.size]
 ·cases d<;>simpa [Act.put] using h.defers
theorem F4.says {T:Nat->AV} {m:M} {a:Act} (h:F4 B S w0 m0 N T m a):CT B S m (EP T) a.eval:=ApH (λ_=>rfl) (λ_=>rfl) h.tm
theorem AqI {T:Nat->AV} {m:M} {a:Act} (h:F4 B S w0 m0 N T m a) {ops:Array Oper} {o:Oper} {g':Option (Nat × Bool)} (hg:nK ops o.guard g'=true) {g:Bool} (wv:XR T g'=some g):Region.wanted o (yielded ops a.tmps)=g:=by
 unfold Region.wanted;cases Sd:o.guard with
 | none =>
  cases g' with
  | none=>simp [XR]at wv;simp [wv]
  | some _=>simp [nK,Sd]at hg
 | some jw =>
  obtain ⟨j,want⟩:=jw;cases g' with
  | none=>simp [nK,Sd]at hg
  | some tw =>
   obtain ⟨t,Avw⟩:=tw;simp only[nK,Sd,Bool.and_eq_true,beq_iff_eq]at hg;obtain ⟨rfl,hg⟩:=hg;split at hg
   ·rename_i oj Lt
    have Rf:oj.dst=some t:=by simpa using hg
    have db:=h.tm t;simp only[XR]at wv;unfold yielded;simp only[Lt,Option.bind_some,Rf];split at wv
    ·rename_i b hb
     rw[hb]at db;have hv:=gK db;have ak:a.tmps[t]? = some (.bool b):=by
      cases ht:a.tmps[t]? with
      | none=>simp [ht,undef]at hv
      | some x=>simp [ht]at hv;rw[hv]
     simp only[ak];simp at wv;rw[<-wv];cases b<;>cases want<;>rfl
    ·rename_i hb
     rw[hb]at db;obtain ⟨vs,hv,hl,_⟩:=vP db;have:vs=[]:=List.eq_nil_of_length_eq_zero (by simpa using hl.symm)
     subst this;simp at wv;subst wv;cases ht:a.tmps[t]? with
     | none=>rfl
     | some x =>
      simp [ht]at hv;subst hv;rfl
    ·cases wv
   ·cases hg
theorem AgF (hC:HA P num C) {ops:Array Oper} {i:Nat} {o:Oper} {ai:AI} (hi:ops[i]? = some o) (n7:rW P num N ops o ai=true) {T:Nat->AV} {m:M} {a:Act} (hf:F4 B S w0 m0 N T m a) {g:Bool} (hg:XR T ai.guard=some g) {E:CG}
  (hE:g=true->m6 C ai.g9 (EP T) m.own ai.op=some E) {K:Act->World->Prop} (hK : ∀ m' a',m'.own=(if g then E.ea m.own else m.own)->F4 B S w0 m0 N (OX T ai.dst (if g then E.valOf m.own else .m9 [])) m' a'->K a' m'.w):wpOp P ops Q i K a m.w:=by
 simp only[rW,Bool.and_eq_true,beq_iff_eq]at n7;obtain ⟨⟨⟨h1,h2⟩,h3⟩,h4⟩:=n7;have hd : ∀ k,o.dst=some k->k<N:=λ k hk=>by
  rw[h1]at hk;rw[hk]at h2;simpa using h2
 unfold wpOp;simp only[hi,AqI hf h3 hg];cases g with
 | true =>
  simp only[if_true];refine .inl (Alf hC hf.mem hf.says h4 (hE rfl) K Q λ u m' q6 qf ku db => ?_);refine hK m' _ (by simpa using q6) ?_;rw[<-h1];exact hf.put o.dst hd qf ku db
 | false =>
  simp only[Bool.false_eq_true,if_false];refine hK m _ (by simp) ?_;rw[<-h1];exact hf.put o.dst hd hf.mem (DQ.refl m) AeB
theorem Af9 {o:AI} {st o7:St} (h:C9 C o st=some o7) : ∃ g E,XR (m8 st.tm) o.guard=some g/\(g=true->m6 C o.g9 (EP (m8 st.tm)) st.own o.op=some E)/\m8 o7.tm=OX (m8 st.tm) o.dst (if g then E.valOf st.own else .m9 [])/\o7.own=(if g then E.ea st.own else st.own):=by
 unfold C9 at h;rw[AmT]at h;cases hg:XR (m8 st.tm) o.guard with
 | none=>simp [hg]at h
 | some g =>
  cases g with
  | true =>
   simp only[hg,Option.map_eq_some_iff]at h;obtain ⟨E,hE,rfl⟩:=h;rw[Yz]at hE;exact ⟨true,E,rfl,λ_=>hE,AiH st o.dst E,AiG st o.dst E⟩
  | false =>
   simp only[hg,Option.some.injEq]at h;subst h;exact ⟨false,.val .any,rfl,λ h=>(by cases h),Yi st o.dst _,Yj st o.dst _⟩
theorem nM {ops:Array Oper} : ∀ {os:List Oper} {l:List AI},dI P num N ops os l=true->os.length=l.length /\ ∀ (i:Nat) (o:Oper) (x:AI),os[i]? = some o->l[i]? = some x->rW P num N ops o x=true
 | [],[],_=>⟨rfl,λ i o x h=>by simp at h⟩
 | o::r,x::l,h=>by
  simp only[dI,Bool.and_eq_true]at h;obtain ⟨h1,h2⟩:=nM h.2;refine ⟨by simp [h1],λ i o' x' ho hx => ?_⟩;cases i with
  | zero=>simp at ho hx;subst ho hx;exact h.1
  | succ i=>exact h2 i o' x' (by simpa using ho) (by simpa using hx)
 | [],_::_,h=>by simp [dI]at h
 | _::_,[],h=>by simp [dI]at h
theorem AgG (hC:HA P num C) {ops:Array Oper} {l:List AI} (n7:dI P num N ops ops.toList l=true) : ∀ (n k:Nat) (st o7:St) (m:M) (a:Act),n+k=ops.size->DE C (l.drop k) st=some o7->m.own=st.own->F4 B S w0 m0 N (m8 st.tm) m a ->
  (∀ m' a',m'.own=o7.own->F4 B S w0 m0 N (m8 o7.tm) m' a'->Q .normal a' m'.w)->wpOps P ops Q (List.range' k n) a m.w
 | 0,k,st,o7,m,a,hk,hs,q6,hf,hQ=>by
  have hl:=(nM n7).1;simp at hl;rw[List.drop_eq_nil_of_le (by omega)]at hs;simp only[DE,Option.some.injEq]at hs;subst hs;simpa [wpOps] using hQ m a q6 hf
 | n+1,k,st,o7,m,a,hk,hs,q6,hf,hQ=>by
  obtain ⟨hl,hg⟩:=nM n7;simp at hl;have Al:k<l.length:=by omega
  have hko:k<ops.size:=by omega
  rw[List.drop_eq_getElem_cons Al]at hs;simp only[DE]at hs;cases o9:C9 C l[k] st with
  | none=>simp [o9]at hs
  | some BA =>
   simp only[o9]at hs;obtain ⟨g,E,h1,h2,h3,h4⟩:=Af9 o9;rw[List.range'_succ,wpOps_cons];have hoi:ops[k]? = some ops[k]:=Array.getElem?_eq_getElem hko;refine AgF hC hoi (hg k ops[k] l[k] (by simp [hko]) (zE Al)) hf h1 (λ js=>by rw[q6];exact h2 js) λ m' a' ou qp => ?_
   refine AgG hC n7 n (k+1) BA o7 m' a' (by omega) hs ?_ ?_ hQ
   ·rw[ou,q6,h4]
   ·rw[q6]at qp
    rw[h3];exact qp
end
end Go.e9
