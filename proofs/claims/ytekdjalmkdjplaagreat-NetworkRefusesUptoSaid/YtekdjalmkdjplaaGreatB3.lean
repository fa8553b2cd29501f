/-
  Addresses, loads, stores, slices.
-/
import Derived.Test.YtekdjalmkdjplaaGreatB2
import Derived.Laws.Slices
import Derived.Orders
set_option linter.unusedSimpArgs false
set_option linter.unusedVariables false
set_option linter.unnecessarySimpa false
namespace Go.c8
open Go.RowKit
section
variable {B:Nat} {S:Nat->Prop} {w0:World} {m:M}
variable {P:Program} {num:Nat->Nat} {o:Oper} {a:Act} {ρ:AM->AV}
theorem T4 {x:AV} {v:Value} (h:CV B S m x v) (h1:x ≠ .any) (h2 : ∀ cs,x ≠ .agg cs) (h3 : ∀ cs,x ≠ .e7 cs) (h4 : ∀ p f g cs,x ≠ .fn p f g cs:=by intros;simp):CC B S m x v:=by
 cases h with
 | any=>exact absurd rfl h1
 | e7 as=>exact absurd rfl (h3 as)
 | ca h=>cases h with
  | one h=>exact h
  | agg cs=>exact absurd rfl (h2 cs)
  | fn p f g cs=>exact absurd rfl (h4 p f g cs)
  | mb f g cs=>exact absurd rfl (h4 true f g cs)
theorem RL {s t i j:Nat} {v:Value} (h:CV B S m (.ptr s t i j) v) : ∃ ad,v = .pointer (some ad)/\t<m.own.c9 s /\ ∀ b,m.own.get s t=some b -> ∃ g,m.ν s t=some g/\ad=⟨g,i*b.a4+j,none⟩:=by
 cases T4 h (by simp) (by simp) (by simp) with
 | rd h=>cases h
 | ptr s t i j ad ht h'=>exact ⟨ad,rfl,ht,h'⟩
theorem WR {cs:List AV} {v:Value} (h:CV B S m (.n7 cs) v) : ∃ (b o:Nat) (u:Nat->Value) (l:Bool),v = .pointer (some ⟨b,o,none⟩)/\(cs≠[]->safe B S m l b)/\(∀ j c,cs[j]? = some c->m.w.cell? ⟨b,o+j,none⟩=some (u j))/\(∀ j c,cs[j]? = some c->Rd m.w (safe B S m) c (u j)):=by
 cases T4 h (by simp) (by simp) (by simp) with
 | rd h=>cases h
 | n7 _ b o u l h1 h2 h3=>exact ⟨b,o,u,l,rfl,h1,h2,h3⟩
theorem P1 {s t z off len:Nat} {v:Value} (h:CV B S m (.row s t z off len) v) : ∃ (ad:Option Addr) (cap:Nat),v = .slice ad len cap/\t<m.own.c9 s/\0<z/\len<=cap/\(0<len->ad.isSome=true) /\
  ∀ b,m.own.get s t=some b->b.a4=z/\((len=0/\cap=0) \/ ∃ g arr e,m.ν s t=some g/\ad=some ⟨g,off*z,none⟩/\m.w.heap[g]? = some (.cells arr e (0,0))/\(off+cap)*z<=arr.size):=by
 cases T4 h (by simp) (by simp) (by simp) with
 | rd h=>cases h
 | row s t z off len ad cap ht ag dh ha h'=>exact ⟨ad,cap,rfl,ht,ag,dh,ha,h'⟩
theorem T6 {l:Bool} {es:List (List AV)} {v:Value} (h:CV B S m (.sl l es) v):Rd m.w (safe B S m) (.sl l es) v:=by
 cases T4 h (by simp) (by simp) (by simp) with
 | rd h=>exact h
theorem sV (hm:BD B S w0 m) (hs:B3 B S m ρ a.eval) {x':AM} {off:Nat} (h:A6 P num o.op (.m4 x' off)=true) {s t i j:Nat} (hx:ρ x' = .ptr s t i j):B8 B S w0 P o a m (.val (.ptr s t i (j+off))):=by
 obtain ⟨ty,x,f,fs,fd,inf,j5,h1,hu,hf,ho,hi,o8⟩:=gW h;obtain ⟨ad,hv,ht,hb⟩:=RL (hx ▸ hs x x' h1);refine DJ hm (u := .pointer (some (ad.add off))) ?_ (.ca (.one (.ptr s t i (j+off) _ ht λ b j4 => ?_)))
 ·simp [execOp,j5,hv,Instr.fieldAt,run_underlying hu,hf,Instr.sureAddr,fieldPlace,sizeOf,typeInfo,hi,o8,ho]
 ·obtain ⟨g,hg,rfl⟩:=hb b j4
  exact ⟨g,hg,by rw[F4];simp;omega⟩
theorem sU (hm:BD B S w0 m) (hs:B3 B S m ρ a.eval) {x':AM} {off:Nat} (h:A6 P num o.op (.m4 x' off)=true) {cs:List AV} (hx:ρ x' = .n7 cs):B8 B S w0 P o a m (.val (.n7 (cs.drop off))):=by
 obtain ⟨ty,x,f,fs,fd,inf,j5,h1,hu,hf,ho,hi,o8⟩:=gW h;obtain ⟨b,ob,u,l,hv,hR,hc,hr⟩:=WR (hx ▸ hs x x' h1);refine DJ hm (u := .pointer (some ⟨b,ob+off,none⟩)) ?_ (.ca (.one (.n7 _ b (ob+off) (λ j=>u (off+j)) l (λ k7=>hR (λ e=>k7 (by simp [e]))) (λ j c hj => ?_) (λ j c hj => ?_))))
 ·simp [execOp,j5,hv,Instr.fieldAt,run_underlying hu,hf,Instr.sureAddr,fieldPlace,sizeOf,typeInfo,hi,o8,ho,F4]
 ·rw[List.getElem?_drop]at hj
  rw[Nat.add_assoc];exact hc _ c hj
 ·rw[List.getElem?_drop]at hj
  exact hr _ c hj
theorem UY {agg:Bool} {cs:List AV} {v:AV} (h:IV agg cs=some v) {vs:List Value} (hc:CL B S m cs vs):CV B S m v (if agg then .agg vs.toArray else vs.getD 0 undef)/\(agg=false->vs.length=1):=by
 unfold IV at h;cases agg with
 | true =>
  obtain rfl:AV.agg cs=v:=by simpa using h
  exact ⟨.ca (.agg cs vs hc),by simp⟩
 | false =>
  simp only[Bool.false_eq_true,if_false]at h;split at h
  ·rename_i c
   obtain rfl:c=v:=by simpa using h
   obtain ⟨u,hu,q7⟩:=PY hc (j:=0) (c:=c) rfl;refine ⟨?_,λ_=>by rw[<-hc.1];rfl⟩;simp only[Bool.false_eq_true,if_false,List.getD,hu,Option.getD_some];exact .ca (.one q7)
  ·cases h
theorem Jf (t:TypeId) (agg:Bool) (inf:TypeInfo) (cp : ∀ w,(isAgg t).run P w = .ok agg w) (hi:P.info? t=some inf) (vs:List Value) (off n:Nat) (hn:inf.size=n) (hle:off+n<=vs.length) (h1:agg=false->n=1) (w:World) :
  (Go.part t vs.toArray off).run P w = .ok (if agg then .agg ((vs.drop off).take n).toArray else ((vs.drop off).take n).getD 0 undef) w:=by
 unfold Go.part;rw[Sem.run_bind,cp w];cases agg with
 | true=>simp [sizeOf,typeInfo,hi,hn,List.extract_eq_take_drop]
 | false =>
  have k6:off<vs.length:=by have:=h1 rfl;omega
  simp [k6,h1 rfl]
theorem sW (hm:BD B S w0 m) (hs:B3 B S m ρ a.eval) {x':AM} {off n:Nat} {agg:Bool} (h:A6 P num o.op (.gu x' off n agg)=true) {cs ds:List AV} {v:AV} (hx:ρ x' = .agg cs) (hp:part cs off n=some ds) (hv:IV agg ds=some v) :
  B8 B S w0 P o a m (.val v):=by
 obtain ⟨ty,x,f,fs,fd,inf,j5,h1,hu,hf,ho,hi,o8,cp,h0⟩:=yQ h;obtain ⟨vs,w3,n0⟩:=rI (hx ▸ hs x x' h1);unfold c8.part at hp;split at hp
 ·rename_i hle
  obtain rfl:(cs.drop off).take n=ds:=by simpa using hp
  obtain ⟨o5,dv⟩:=UY hv (qY n0 off n);have hl:=n0.1;have mc:agg=false->n=1:=λ e=>by have:=dv e;simp at this;omega
  refine DJ hm ?_ o5;simp only[execOp,j5,Sem.run_bind,Instr.field,run_underlying hu,Result.andThen_ok,hf,w3,asAgg,Sem.run_pure,ho];rw[Jf fd.type agg inf cp hi vs off n o8 (by omega) mc];rfl
 ·cases hp
theorem sX (hm:BD B S w0 m) (hs:B3 B S m ρ a.eval) {len a4:Nat} {x' i':AM} (h:A6 P num o.op (.o6 (some len) a4 x' i')=true) {k:IntKind} {n:Int} {s t i0 j:Nat} (m6:ρ i' = .int k n) (hx:ρ x' = .ptr s t i0 j) (h0:0<=n) (hn:n<len) :
  B8 B S w0 P o a m (.val (.ptr s t i0 (j+n.toNat*a4))):=by
 obtain ⟨ty,x,i,e,inf,j5,h1,h2,hi,o8,ae⟩:=UM h;rcases ae with ⟨ko,hl,hu,k6⟩|⟨hl,_⟩
 ·obtain rfl:len=ko:=by simpa using hl
  obtain ⟨ad,hv,ht,hb⟩:=RL (hx ▸ hs x x' h1);have nu:=GW (m6 ▸ hs i i' h2);refine DJ hm (u := .pointer (some (ad.add (n.toNat*a4)))) ?_ (.ca (.one (.ptr s t i0 (j+n.toNat*a4) _ ht λ b j4 => ?_)))
  ·simp [execOp,j5,hv,nu,Instr.indexAt,asIntOf,run_underlying hu,Instr.sureAddr,sizeOf,typeInfo,hi,o8,h0,hn]
  ·obtain ⟨g,hg,rfl⟩:=hb b j4
   exact ⟨g,hg,by rw[F4];simp;omega⟩
 ·cases hl
theorem sY (hm:BD B S w0 m) (hs:B3 B S m ρ a.eval) {len a4:Nat} {x' i':AM} (h:A6 P num o.op (.o6 (some len) a4 x' i')=true) {k:IntKind} {n:Int} {cs:List AV} (m6:ρ i' = .int k n) (hx:ρ x' = .n7 cs) (h0:0<=n) (hn:n<len) :
  B8 B S w0 P o a m (.val (.n7 (cs.drop (n.toNat*a4)))):=by
 obtain ⟨ty,x,i,e,inf,j5,h1,h2,hi,o8,ae⟩:=UM h;rcases ae with ⟨ko,hl,hu,k6⟩|⟨hl,_⟩
 ·obtain rfl:len=ko:=by simpa using hl
  obtain ⟨b,ob,u,l,hv,hR,hc,hr⟩:=WR (hx ▸ hs x x' h1);have nu:=GW (m6 ▸ hs i i' h2);refine DJ hm (u := .pointer (some ⟨b,ob+n.toNat*a4,none⟩)) ?_ (.ca (.one (.n7 _ b (ob+n.toNat*a4) (λ j=>u (n.toNat*a4+j)) l (λ k7=>hR (λ e=>k7 (by simp [e]))) (λ j c hj => ?_) (λ j c hj => ?_))))
  ·simp [execOp,j5,hv,nu,Instr.indexAt,asIntOf,run_underlying hu,Instr.sureAddr,sizeOf,typeInfo,hi,o8,h0,hn,F4]
  ·rw[List.getElem?_drop]at hj
   rw[Nat.add_assoc];exact hc _ c hj
  ·rw[List.getElem?_drop]at hj
   exact hr _ c hj
 ·cases hl
theorem kG (ty e:TypeId) (inf:TypeInfo) (hu:P.underlying ty=some (.slice e)) (hi:P.info? e=some inf) (ad:Addr) (len cap:Nat) (k:IntKind) (n:Int) (h0:0<=n) (hn:n<len) (w:World) :
  (Instr.indexAt ty (.slice (some ad) len cap) (.int k n)).run P w = .ok (.pointer (some (ad.add (n.toNat*inf.size)))) w:=by
 simp [Instr.indexAt,asIntOf,run_underlying hu,sizeOf,typeInfo,hi,h0,hn]
theorem sZ (hm:BD B S w0 m) (hs:B3 B S m ρ a.eval) {a4:Nat} {x' i':AM} (h:A6 P num o.op (.o6 none a4 x' i')=true) {k:IntKind} {n:Int} {s t z off len:Nat} (m6:ρ i' = .int k n) (hx:ρ x' = .row s t z off len) (h0:0<=n) (hn:n<len) (hz:z=a4) :
  B8 B S w0 P o a m (.val (.ptr s t (off+n.toNat) 0)):=by
 obtain ⟨ty,x,i,e,inf,j5,h1,h2,hi,o8,ae⟩:=UM h;rcases ae with ⟨_,hl,_⟩|⟨_,hu,_⟩
 ·cases hl
 ·obtain ⟨ad,cap,hv,ht,ag,dh,ha,hb⟩:=P1 (hx ▸ hs x x' h1)
  have nu:=GW (m6 ▸ hs i i' h2);obtain ⟨uq,rfl⟩:=Option.isSome_iff_exists.1 (ha (by omega));refine DJ hm (u := .pointer (some (uq.add (n.toNat*a4)))) ?_ (.ca (.one (.ptr s t (off+n.toNat) 0 _ ht λ b j4 => ?_)))
  ·simp only[execOp,j5,hv,nu,Sem.run_bind]
   rw[kG ty e inf hu hi uq len cap k n h0 hn,o8];rfl
  ·obtain ⟨jn,ae⟩:=hb b j4
   rcases ae with ⟨nv,_⟩|⟨g,arr,e',hg,fe,_,_⟩
   ·omega
   ·obtain rfl:uq=⟨g,off*z,none⟩:=by simpa using fe
    exact ⟨g,hg,by rw[F4,jn,<-hz,Nat.add_mul];rfl⟩
theorem tA (hm:BD B S w0 m) (hs:B3 B S m ρ a.eval) {a4:Nat} {x' i':AM} (h:A6 P num o.op (.o6 none a4 x' i')=true) {k:IntKind} {n:Int} {l:Bool} {es:List (List AV)} {cs:List AV} (m6:ρ i' = .int k n) (hx:ρ x' = .sl l es) (h0:0<=n) (hn:es[n.toNat]? = some cs) (hz:cs.length=a4) :
  B8 B S w0 P o a m (.val (.n7 cs)):=by
 obtain ⟨ty,x,i,e,inf,j5,h1,h2,hi,o8,ae⟩:=UM h;rcases ae with ⟨_,hl,_⟩|⟨_,hu,_⟩
 ·cases hl
 ·have dz:=T6 (hx ▸ hs x x' h1)
  have nu:=GW (m6 ▸ hs i i' h2);have k6:n.toNat<es.length:=(zS hn).1;generalize w3:a.eval x=v at dz;cases dz with
  | dd=>simp at k6
  | sl _ _ b ob o3 cap u k7 hp hR v3 db hc hr =>
   have zq:o3=a4:=by
    rw[<-hz];exact (db cs (zM hn)).symm
   subst zq;refine DJ hm (u := .pointer (some ⟨b,ob+n.toNat*o3,none⟩)) ?_ (.ca (.one (.n7 _ b (ob+n.toNat*o3) (u n.toNat) l (λ_=>hR) (λ j c hj => ?_) (λ j c hj=>hr _ cs hn j c hj))))
   ·simp only[execOp,j5,w3,nu,Sem.run_bind]
    rw[kG ty e inf hu hi ⟨b,ob,none⟩ es.length cap k n h0 (by omega),o8,F4];rfl
   ·rw[Nat.add_assoc]
    exact hc _ cs hn j c hj
end
end Go.c8
namespace Go.c8
open Go.RowKit
section
variable {B:Nat} {S:Nat->Prop} {w0:World} {m:M}
variable {P:Program} {num:Nat->Nat} {o:Oper} {a:Act} {ρ:AM->AV}
theorem ZH (t:TypeId) (agg:Bool) (n:Nat) (cp : ∀ w,(isAgg t).run P w = .ok agg w) (hn:if agg then ∃ i,P.info? t=some i/\i.size=n else n=1) (ad:Addr) (vs:List Value) (hl:vs.length=n) (w:World)
  (hc : ∀ q v,vs[q]? = some v->w.cell? (ad.add q)=some v):(Instr.loadAt t (.pointer (some ad))).run P w = .ok (if agg then .agg vs.toArray else vs.getD 0 undef) w:=by
 unfold Instr.loadAt loadVar;simp only[Instr.sureAddr,Sem.run_bind,Sem.run_pure,Result.andThen_ok,cp w];cases agg with
 | true =>
  simp only[if_true]at hn;obtain ⟨i,hi,hs⟩:=hn;have:=run_loadCells_list (P:=P) w ad vs hc
  simp [sizeOf,typeInfo,hi,hs,<-hl,this]
 | false =>
  simp only[Bool.false_eq_true,if_false]at hn ⊢;have k6:0<vs.length:=by omega
  have h0:=hc 0 vs[0] (zE k6);have qg:w.cell? ad=some vs[0]:=by simpa [Addr.add] using h0
  simp [load,Sem.run,qg,k6]
theorem jT (hm:BD B S w0 m) {s t i j n:Nat} {cs:List AV} (h:m.own.ja s t i j n=some cs) : ∃ b g arr e,m.own.get s t=some b/\(0<n->m.ν s t=some g/\m.w.heap[g]? = some (.cells arr e (0,0))) /\
  ∃ vs:List Value,vs.length=n/\CL B S m cs vs /\ ∀ q v,vs[q]? = some v->arr[i*b.a4+j+q]? = some v:=by
 unfold AE.ja at h;cases hb:m.own.get s t with
 | none=>simp [hb]at h
 | some b =>
  simp only[hb]at h;cases he:b.es[i]? with
  | none=>simp [he]at h
  | some ds =>
   simp only[he,part]at h;split at h
   ·rename_i hle
    obtain rfl:(ds.drop j).take n=cs:=by simpa using h
    obtain ⟨hz,x9⟩:=hm.c7 s t b hb;cases hν:m.ν s t with
    | none =>
     rw[hν]at x9;rw[x9]at he;simp at he
    | some g =>
     rw[hν]at x9;obtain ⟨hB,arr,e,hh,q7⟩:=x9;have o8 : ∀ q,q<n -> ∃ u,arr[i*b.a4+j+q]? = some u:=λ q hq=>by
      have k6:j+q<ds.length:=by omega
      obtain ⟨u,hu,_⟩:=q7 i ds he (j+q) ds[j+q] (zE k6);exact ⟨u,by rw[<-hu];congr 1;omega⟩
     refine ⟨b,g,arr,e,rfl,λ_=>⟨rfl,hh⟩,(arr.toList.drop (i*b.a4+j)).take n,?_,⟨?_,?_⟩,?_⟩
     ·rw[List.length_take,List.length_drop]
      rcases Nat.eq_zero_or_pos n with h0|h0
      ·omega
      ·obtain ⟨u,hu⟩:=o8 (n-1) (by omega)
       have:=(Array.getElem?_eq_some_iff.1 hu).1
       simp;omega
     ·rw[List.length_take,List.length_take,List.length_drop,List.length_drop]
      rcases Nat.eq_zero_or_pos n with h0|h0
      ·omega
      ·obtain ⟨u,hu⟩:=o8 (n-1) (by omega)
       have:=(Array.getElem?_eq_some_iff.1 hu).1
       simp;omega
     ·intro q c v hq hv
      rw[List.getElem?_take]at hq hv;split at hq
      ·rename_i ym
       rw[if_pos ym]at hv;rw[List.getElem?_drop]at hq hv;obtain ⟨u,hu,hc⟩:=q7 i ds he (j+q) c hq;have:some u=some v:=by
        rw[<-hu,<-hv];simp only[Array.getElem?_toList];congr 1;omega
       obtain rfl:u=v:=by simpa using this
       exact hc
      ·cases hq
     ·intro q v hv
      rw[List.getElem?_take]at hv;split at hv
      ·rw[List.getElem?_drop]at hv
       simpa using hv
      ·cases hv
   ·cases h
theorem TT {w:World} {g p:Nat} {arr:Array Value} {e:TypeId} (h:w.heap[g]? = some (.cells arr e (0,0))):w.cell? ⟨g,p,none⟩=arr[p]? := by
 simp [World.cell?,h]
theorem tC (hm:BD B S w0 m) (hs:B3 B S m ρ a.eval) {agg:Bool} {n:Nat} {x':AM} (h:A6 P num o.op (.ld agg n x')=true) {s t i j:Nat} {cs:List AV} {v:AV} (hx:ρ x' = .ptr s t i j) (hl:m.own.ja s t i j n=some cs) (hv:IV agg cs=some v) :
  B8 B S w0 P o a m (.val v):=by
 obtain ⟨ty,x,j5,h1,cp,hn⟩:=gX h;obtain ⟨ad,w3,ht,hb⟩:=RL (hx ▸ hs x x' h1);obtain ⟨b,g,arr,e,l6,hg,vs,lq,n0,bq⟩:=jT hm hl;obtain ⟨o5,_⟩:=UY hv n0;refine DJ hm ?_ o5;simp only[execOp,j5,Sem.run_bind,w3];rw[ZH ty agg n cp hn ad vs lq m.w (λ q u hq => ?_)]
 ·rfl
 ·have k6:q<vs.length:=(zS hq).1
  obtain ⟨tj,eo⟩:=hg (by omega);obtain ⟨g',z7,rfl⟩:=hb b l6;obtain rfl:g=g':=by rw[tj]at z7;simpa using z7
  rw[F4,TT eo];exact bq q u hq
theorem tB (hm:BD B S w0 m) (hs:B3 B S m ρ a.eval) {agg:Bool} {n:Nat} {x':AM} (h:A6 P num o.op (.ld agg n x')=true) {cs ds:List AV} {v:AV} (hx:ρ x' = .n7 cs) (hl:part cs 0 n=some ds) (hv:IV agg ds=some v) :
  B8 B S w0 P o a m (.val v):=by
 obtain ⟨ty,x,j5,h1,cp,hn⟩:=gX h;obtain ⟨b,ob,u,l,w3,hR,hc,hr⟩:=WR (hx ▸ hs x x' h1);unfold c8.part at hl;split at hl
 ·rename_i hle
  obtain rfl:(cs.drop 0).take n=ds:=by simpa using hl
  have n0:CL B S m ((cs.drop 0).take n) ((List.range n).map u):=by
   refine ⟨by simp;omega,λ q c v' hq dk => ?_⟩;simp only[List.drop_zero,List.getElem?_take]at hq;split at hq
   ·rename_i ym
    simp [ym]at dk;subst dk;exact .rd (hr q c hq)
   ·cases hq
  obtain ⟨o5,_⟩:=UY hv n0;refine DJ hm ?_ o5;simp only[execOp,j5,Sem.run_bind,w3];rw[ZH ty agg n cp hn ⟨b,ob,none⟩ ((List.range n).map u) (by simp) m.w (λ q w' hq => ?_)]
  ·rfl
  ·have ym:q<n:=by have:=(zS hq).1;simpa using this
   simp [ym]at hq;subst hq;rw[F4];exact hc q cs[q] (zE (by omega))
 ·cases hl
theorem ZU {α:Type} (l:List α) (off:Nat) (vs:List α) (h:off+vs.length<=l.length) (q:Nat):(l.take off++vs++l.drop (off+vs.length))[q]? = if q<off then l[q]? else if q<off+vs.length then vs[q-off]? else l[q]? := by
 rw[List.append_assoc];by_cases h1:q<off
 ·rw[if_pos h1,List.getElem?_append_left (by simp;omega),List.getElem?_take,if_pos h1]
 ·rw[if_neg h1,List.getElem?_append_right (by simp;omega)]
  have e1:(l.take off).length=off:=by simp;omega
  rw[e1];by_cases h2:q<off+vs.length
  ·rw[if_pos h2,List.getElem?_append_left (by omega)]
  ·rw[if_neg h2,List.getElem?_append_right (by omega),List.getElem?_drop]
   congr 1;omega
theorem bS (hm:BD B S w0 m) {g:Nat} (hB:B<=g) (arr:Array Value):Below B w0 (m.w.setRow g arr) :=
 hm.below.trans ⟨rfl,rfl,rfl,by simp,λ k hk=>setRow_other _ _ _ _ (by omega)⟩
theorem dJ (hm:BD B S w0 m) (hs:B3 B S m ρ a.eval) {n:Nat} {x' v':AM} (h:A6 P num o.op (.st n x' v')=true) {s t i j:Nat} {vs:List AV} {j7:AE} (hx:ρ x' = .ptr s t i j) (hv:cellsOf (ρ v')=some vs) (hn:vs.length=n) (g8:m.own.gp s t i j vs=some j7) :
  B8 B S w0 P o a m (.aj (.e7 []) j7):=by
 obtain ⟨ty,x,v,inf,j5,h1,h2,hi,o8⟩:=yY h;obtain ⟨ad,w3,ht,hb⟩:=RL (hx ▸ hs x x' h1);have n0:=T5 (hs v v' h2) hv;unfold AE.gp at g8;cases l6:m.own.get s t with
 | none=>simp [l6]at g8
 | some b =>
  simp only[l6]at g8;cases he:b.es[i]? with
  | none=>simp [he]at g8
  | some cs =>
   simp only[he]at g8;split at g8
   ·rename_i hle
    obtain rfl:=Option.some.inj g8;obtain ⟨hz,x9⟩:=hm.c7 s t b l6;obtain ⟨g,hg,rfl⟩:=hb b l6;rw[hg]at x9;obtain ⟨hB,arr,e,hh,q7⟩:=x9;have Ci:cs.length=b.a4:=hz cs (zM he);have hlen:(a.eval v).cells.toList.length=vs.length:=n0.1.symm;have z8:i<b.es.length:=(zS he).1;have tv:i*b.a4+j+vs.length<=arr.size:=by
     rcases Nat.eq_zero_or_pos vs.length with h0|h0
     ·rcases Nat.eq_zero_or_pos j with Gg|Gg
      ·rw[h0,Gg]
       rcases Nat.eq_zero_or_pos i with mo|mo
       ·rw[mo];omega
       ·rcases Nat.eq_zero_or_pos b.a4 with ag|ag
        ·rw[ag];omega
        ·have Gd:i-1<b.es.length:=by omega
         have fo:(b.es[i-1]).length=b.a4:=hz _ (List.getElem_mem Gd);obtain ⟨u,hu,_⟩:=q7 (i-1) _ (zE Gd) (b.a4-1) _ (zE (by omega));have:=(Array.getElem?_eq_some_iff.1 hu).1
         have e1:(i-1)*b.a4+b.a4=i*b.a4:=by
          rw[<-Nat.succ_mul];congr 1;omega
         omega
      ·obtain ⟨u,hu,_⟩:=q7 i cs he (j-1) cs[j-1] (zE (by omega))
       have:=(Array.getElem?_eq_some_iff.1 hu).1
       omega
     ·obtain ⟨u,hu,_⟩:=q7 i cs he (j+vs.length-1) cs[j+vs.length-1] (zE (by omega))
      have:=(Array.getElem?_eq_some_iff.1 hu).1
      omega
    have dv:=qX n0;have nh:=run_storeCells_at (P:=P) g (i*b.a4+j) e (a.eval v).cells.toList 0 arr m.w hh (by rw[hlen];omega) dv;generalize fw:(arr.toList.take (i*b.a4+j+0)++(a.eval v).cells.toList++arr.toList.drop (i*b.a4+j+0+(a.eval v).cells.toList.length)).toArray=n9 at nh;have qi : ∀ p,n9[p]? = if p<i*b.a4+j then arr[p]? else if p<i*b.a4+j+vs.length then (a.eval v).cells.toList[p-(i*b.a4+j)]? else arr[p]? := λ p=>by
     rw[<-fw];simp only[Nat.add_zero,List.getElem?_toArray];rw[ZU _ _ _ (by rw[hlen];simpa using tv),hlen];simp only[Array.getElem?_toList]
    have ix:n9.size=arr.size:=by
     rw[<-fw];simp [hlen];have:=hlen
     simp at this;omega
    obtain ⟨k1,k2⟩:=Km hm s t b ⟨b.a4,b.es.set i (splice cs j vs)⟩ l6 g hg arr n9 e hh rfl (λ y hy=>by
      rcases List.mem_or_eq_of_mem_set hy with hy|hy
      ·exact hz y hy
      ·rw[hy,<-Ci];simp [splice];omega) ix
     (λ i' y8 m6 q c hq=>by
      show ∃ u,n9[i'*b.a4+q]? = some u/\_;change (b.es.set i (splice cs j vs))[i']? = some y8 at m6;by_cases Ge:i'=i
      ·subst Ge
       rw[List.getElem?_set_self z8]at m6;obtain rfl:splice cs j vs=y8:=by simpa using m6
       unfold splice at hq;rw[ZU _ _ _ hle]at hq;rw[qi];by_cases qw:q<j
       ·rw[if_pos qw]at hq
        rw[if_pos (by omega)];exact q7 i' cs he q c hq
       ·rw[if_neg qw]at hq
        rw[if_neg (by omega)];by_cases vk:q<j+vs.length
        ·rw[if_pos vk]at hq
         rw[if_pos (by omega)];obtain ⟨u,hu,bg⟩:=PY n0 hq;exact ⟨u,by rw[<-hu];congr 1;omega,bg⟩
        ·rw[if_neg vk]at hq
         rw[if_neg (by omega)];exact q7 i' cs he q c hq
      ·rw[List.getElem?_set_ne (by omega)]at m6
       have Rk:q<b.a4:=by
        rw[<-hz y8 (zM m6)];exact (zS hq).1
       obtain ⟨u,hu,bg⟩:=q7 i' y8 m6 q c hq;refine ⟨u,?_,bg⟩;rw[qi,<-hu];rcases Nat.lt_or_gt_of_ne Ge with k6|kb
       ·have:(i'+1)*b.a4<=i*b.a4:=zR _ k6
        rw[Nat.succ_mul]at this;rw[if_pos (by omega)]
       ·have:(i+1)*b.a4<=i'*b.a4:=zR _ kb
        rw[Nat.succ_mul]at this;rw[if_neg (by omega),if_neg (by omega)])
     (m.w.setRow g n9) (bS hm hB n9) (by simp) (λ k hk=>setRow_other _ _ _ _ hk) (setRow_heap _ _ _ _ _ _ hh)
    intro K Q hK;refine Kz (w':=m.w.setRow g n9) ?_ (hK undef ⟨m.ν,_,m.w.setRow g n9⟩ rfl k1 k2 iS);have Em:(a.eval v).cells.size=inf.size:=by rw[o8,<-hn,<-hlen];simp
    simp only[execOp,j5,w3,Instr.storeAt,storeVar,Instr.sureAddr,Sem.run_bind,Sem.run_pure,Result.andThen_ok,sizeOf,typeInfo,run_program,hi];rw[if_neg (by simpa using Em)];simp only[Sem.run_bind,Sem.run_pure,Result.andThen_ok,nh]
   ·cases g8
theorem tE (hm:BD B S w0 m) (hs:B3 B S m ρ a.eval) {s a4 bytes:Nat} {zero:List AV} {l' c':AM} (h:A6 P num o.op (.mk s a4 bytes zero l' c')=true) {kl kc:IntKind} {l c:Int} (hl:ρ l' = .int kl l) (hc:ρ c' = .int kc c) (h0:0<=l) (dh:l<=c) (hb:c*bytes<=FF) (Bl:c<=9223372036854775807) (hz:zero.length=a4) :
  B8 B S w0 P o a m (.new s ⟨a4,List.replicate l.toNat zero⟩ (λ t => .row s t a4 0 l.toNat)):=by
 obtain ⟨ty,lx,cx,e,inf,z,j5,h1,h2,hu,hi,o8,mg,ag,db,k7⟩:=yT h;have el:=GW (hl ▸ hs lx l' h1);have ec:=GW (hc ▸ hs cx c' h2);have n0:CL B S m zero z.cells.toList:=P4 db;have Qb:z.cells.size=a4:=by rw[<-hz,n0.1];simp
 refine dI hm s a4 l.toNat c.toNat _ (madeCells z.cells (c.toNat*inf.size)) e (Nat.pos_of_ne_zero k7) (by omega) (by rw[size_madeCells,o8];exact Nat.le_refl _) (λ x hx=>by rw[(List.mem_replicate.1 hx).2,hz]) (λ i cs m6 j c1 hj => ?_) ?_
 ·rw[List.getElem?_replicate]at m6
  split at m6
  ·rename_i z8
   obtain rfl:zero=cs:=by simpa using m6
   obtain ⟨u,fi,bg⟩:=PY n0 hj;refine ⟨u,?_,bg⟩;have z9:j<a4:=by rw[<-hz];exact (zS hj).1
   have k6:i*a4+j<c.toNat*inf.size:=by
    rw[o8];have h3:(i+1)*a4<=c.toNat*a4:=zR _ (by omega);rw[Nat.succ_mul]at h3;omega
   have Df:(i*a4+j)%z.cells.size=j:=by rw[Qb,Nat.add_comm,Nat.add_mul_mod_self_right,Nat.mod_eq_of_lt z9]
   have vn:z.cells[j]? = some u:=by simpa using fi
   have Ny:j<z.cells.size:=(Array.getElem?_eq_some_iff.1 vn).1;have ib:z.cells[j]=u:=(Array.getElem?_eq_some_iff.1 vn).2;simp [madeCells,k6,Df,Ny,ib]
  ·cases m6
 ·have:=run_make (P:=P) m.w ty e inf z hu hi ag kl kc l c h0 dh (by rw[mg,Int.mul_comm];simp only[FF]at hb;omega) Bl
  simp only[execOp,j5,el,ec,Sem.run_bind,this,Result.andThen_ok,Sem.run_pure]
theorem sT (hm:BD B S w0 m) (hs:B3 B S m ρ a.eval) {x':AM} {i:Nat} (h:A6 P num o.op (.ext x' i)=true) {vs:List AV} {v:AV} (hx:ρ x' = .e7 vs) (hv:vs[i]? = some v):B8 B S w0 P o a m (.val v):=by
 obtain ⟨x,j5,h1⟩:=yP h;obtain ⟨us,w3,hl,hc⟩:=WT (hx ▸ hs x x' h1);have k6:i<us.length:=by rw[<-hl];exact (zS hv).1
 refine DJ hm (u:=us[i]) ?_ (.ca (hc i v us[i] hv (zE k6)));simp [execOp,j5,w3,Instr.extract,k6]
theorem tD (hm:BD B S w0 m) (hs:B3 B S m ρ a.eval) {x':AM} (h:A6 P num o.op (.len x')=true) {n:Nat} (hx:MQ (ρ x')=some n):B8 B S w0 P o a m (.val (.int .i64 n)):=by
 obtain ⟨x,t,e,j5,h1,hu⟩:=yS h;have o5:=hs x x' h1;obtain ⟨ad,cap,w3⟩ : ∃ ad cap,a.eval x = .slice ad n cap:=by
  generalize ρ x'=av at *;cases av with
  | sl l es =>
   have hr:=T6 o5;simp only[MQ,Option.some.injEq]at hx;subst hx;generalize a.eval x=v at *;cases hr with
   | dd=>exact ⟨_,_,rfl⟩
   | sl=>exact ⟨_,_,rfl⟩
  | row s t z off len =>
   obtain ⟨ad,cap,hv,_⟩:=P1 o5;simp only[MQ,Option.some.injEq]at hx;subst hx;exact ⟨ad,cap,hv⟩
  | nil =>
   simp only[MQ,Option.some.injEq]at hx;subst hx;exact ⟨_,_,P0 o5⟩
  | _=>simp [MQ]at hx
 refine DJ hm (u := .int .i64 n) ?_ (NM _ _);simp [execOp,j5,resolve,invoke,builtin,w3,Builtin.len_,run_underlying hu,goInt]
theorem OP (hs:B3 B S m ρ a.eval) : ∀ {xs:List Operand} {ys:List AM},DC xs ys=true->xs.length=ys.length /\ ∀ (j:Nat) (x:Operand) (y:AM),xs[j]? = some x->ys[j]? = some y->CV B S m (ρ y) (a.eval x)
 | [],[],_=>⟨rfl,λ j x y h=>by simp at h⟩
 | x::r,y::l,h=>by
  simp only[DC,Bool.and_eq_true]at h;obtain ⟨Qd,dn⟩:=OP hs h.2;refine ⟨by simp [Qd],λ j x' y' hx hy => ?_⟩;cases j with
  | zero=>simp at hx hy;subst hx hy;exact hs _ _ h.1
  | succ j=>exact dn j x' y' (by simpa using hx) (by simpa using hy)
 | [],_::_,h=>by simp [DC]at h
 | _::_,[],h=>by simp [DC]at h
theorem kH (mx:Bool) (hs:B3 B S m ρ a.eval) (w:World) : ∀ (xs:List Operand) (ys:List AM) (v:AV) (u:Value) (r:AV),DC xs ys=true->CV B S m v u->IU mx v (ys.map ρ)=some r->(∃ k n,v = .int k n) -> ∃ k n,r = .int k n /\
  ((xs.map a.eval).foldlM (if mx then Builtin.max2 else Builtin.min2) u).run P w = .ok (.int k n) w
 | [],[],v,u,r,_,hc,hm,⟨k,n,hv⟩=>by
  simp only[List.map_nil,IU,Option.some.injEq]at hm;subst hm hv;obtain rfl:=GW hc;exact ⟨k,n,rfl,by simp⟩
 | x::xr,y::yr,v,u,r,he,hc,hm,⟨k,n,hv⟩=>by
  simp only[DC,Bool.and_eq_true]at he;simp only[List.map_cons,IU]at hm;have hx:=hs x y he.1;subst hv;obtain rfl:=GW hc;cases hy:ρ y with
  | int k' n' =>
   rw[hy]at hx hm;have Pr:=GW hx;simp only[MT]at hm;obtain ⟨k2,n2,rfl,h2⟩:=kH mx hs w xr yr _ (.int k (if mx then (if n'>n then n' else n) else (if n'<n then n' else n))) r he.2 (NM _ _) hm ⟨_,_,rfl⟩;refine ⟨k2,n2,rfl,?_⟩;simp only[List.map_cons,List.foldlM_cons,Sem.run_bind,Pr];cases mx
   ·simpa [Builtin.min2] using h2
   ·simpa [Builtin.max2] using h2
  | _=>rw[hy]at hm;simp [MT]at hm
 | [],_::_,_,_,_,he,_,_,_=>by simp [DC]at he
 | _::_,[],_,_,_,he,_,_,_=>by simp [DC]at he
theorem tG (hm:BD B S w0 m) (hs:B3 B S m ρ a.eval) {mx:Bool} {k9:List AM} (h:A6 P num o.op (.mm mx k9)=true) {v r:AV} {l:List AV} (hx:k9.map ρ=v::l) (hv:IU mx v l=some r) (hi : ∃ k n,v = .int k n):B8 B S w0 P o a m (.val r):=by
 obtain ⟨xs,ts,j5,he⟩:=gY h;cases k9 with
 | nil=>simp at hx
 | cons y yr =>
  simp only[List.map_cons,List.cons.injEq]at hx;obtain ⟨rfl,rfl⟩:=hx;obtain ⟨xl⟩:=xs;cases xl with
  | nil=>simp [DC]at he
  | cons x xr =>
   simp only[DC,Bool.and_eq_true]at he;obtain ⟨k,n,rfl,m7⟩:=kH (P:=P) mx hs m.w xr yr (ρ y) (a.eval x) r he.2 (hs x y he.1) hv hi;refine DJ hm (u := .int k n) ?_ (NM _ _);cases mx
   ·simp only[execOp,j5,resolve,invoke,builtin,Builtin.min_,Sem.run_bind,Sem.run_pure,Result.andThen_ok]at m7 ⊢
    simp at m7 ⊢;rw[m7];rfl
   ·simp only[execOp,j5,resolve,invoke,builtin,Builtin.max_,Sem.run_bind,Sem.run_pure,Result.andThen_ok]at m7 ⊢
    simp at m7 ⊢;rw[m7];rfl
end
end Go.c8

namespace Go.c8
open Go.RowKit
section
variable {B:Nat} {S:Nat->Prop} {w0:World} {m:M}
variable {P:Program} {num:Nat->Nat} {o:Oper} {a:Act} {ρ:AM->AV}
def F5 (ρ:AM->AV) (d:Nat):Option AM->Option Int
 | none=>some d
 | some y=>match ρ y with | .int _ n=>some n|_=>none
theorem VG (ty e:TypeId) (inf:TypeInfo) (hu:P.underlying ty=some (.slice e)) (hi:P.info? e=some inf) (hs:B3 B S m ρ a.eval) {lo m6:Option Operand} {ig xu:Option AM} (gx:L3 lo ig=true) (Ak:L3 m6 xu=true)
  (ad:Option Addr) (len cap:Nat) (l h:Int) (hl:F5 ρ 0 ig=some l) (hh:F5 ρ len xu=some h) (h0:0<=l) (Rh:l<=h) (Rc:h<=len) (dh:len<=cap) (w:World) :
  (Instr.sliceAt ty (.slice ad len cap) (lo.map a.eval) (m6.map a.eval) none).run P w = .ok (.slice (if cap=l.toNat then ad else ad.map (·.add (l.toNat*inf.size))) (h.toNat-l.toNat) (cap-l.toNat)) w:=by
 have nu : ∀ {x:Option Operand} {y:Option AM} {d:Nat} {n:Int},L3 x y=true->F5 ρ d y=some n->(x=none/\y=none/\n=d) \/ ∃ x' k,x=some x'/\a.eval x' = .int k n:=by
  intro x y d n gk hb;cases x with
  | none=>cases y with
   | none=>simp [F5]at hb;exact .inl ⟨rfl,rfl,hb.symm⟩
   | some y=>simp [L3]at gk
  | some x=>cases y with
   | none=>simp [L3]at gk
   | some y =>
    simp only[L3]at gk;simp only[F5]at hb;cases hy:ρ y with
    | int k q =>
     rw[hy]at hb;simp only[Option.some.injEq]at hb;subst hb;exact .inr ⟨x,k,rfl,GW (hy ▸ hs x y gk)⟩
    | _=>rw[hy]at hb;cases hb
 have ql:h<=(cap:Int):=by omega
 unfold Instr.sliceAt Instr.slice Instr.sliceBounds;rcases nu gx hl with ⟨rfl,_,rfl⟩|⟨x1,k1,rfl,e1⟩<;>rcases nu Ak hh with ⟨rfl,_,rfl⟩|⟨x2,k2,rfl,e2⟩
 ·simp [run_underlying hu,sizeOf,typeInfo,hi]
 ·have sv:=run_sliceBound (P:=P) w k2 h cap .sliceAcap (by omega) ql
  simp [run_underlying hu,sizeOf,typeInfo,hi,e2,sv]
 ·have n8:=run_sliceBound (P:=P) w k1 l len .sliceB h0 (by omega)
  simp [run_underlying hu,sizeOf,typeInfo,hi,e1,n8]
 ·have sv:=run_sliceBound (P:=P) w k2 h cap .sliceAcap (by omega) ql
  have n8:=run_sliceBound (P:=P) w k1 l h.toNat .sliceB h0 (by omega);simp [run_underlying hu,sizeOf,typeInfo,hi,e1,e2,sv,n8]
theorem tL (hm:BD B S w0 m) (hs:B3 B S m ρ a.eval) {a4:Nat} {x':AM} {ig m6:Option AM} (h:A6 P num o.op (.de a4 x' ig m6)=true) (hx:ρ x' = .nil) (hl:F5 ρ 0 ig=some 0) (hh:F5 ρ 0 m6=some 0):B8 B S w0 P o a m (.val .nil):=by
 obtain ⟨ty,x,lo,lf,e,inf,j5,h1,h2,h3,hu,hi,o8,k7⟩:=YB h;have w3:=P0 (hx ▸ hs x x' h1);have m7:=VG ty e inf hu hi hs h2 h3 none 0 0 0 0 hl hh (by omega) (by omega) (by omega) (by omega) m.w;refine DJ hm (u := .slice none 0 0) ?_ (.ca (.one .nil));simp only[execOp,j5,w3,Sem.run_bind,Option.map_none,m7];rfl
theorem tM (hm:BD B S w0 m) (hs:B3 B S m ρ a.eval) {a4:Nat} {x':AM} {ig m6:Option AM} (h:A6 P num o.op (.de a4 x' ig m6)=true) {s t z off len:Nat} {l u:Int} (hx:ρ x' = .row s t z off len) (hl:F5 ρ 0 ig=some l) (hh:F5 ρ len m6=some u) (h0:0<=l) (An:l<=u) (ib:u<=len) (hz:z=a4) :
  B8 B S w0 P o a m (.val (.row s t z (off+l.toNat) (u.toNat-l.toNat))):=by
 obtain ⟨ty,x,lo,lf,e,inf,j5,h1,h2,h3,hu,hi,o8,k7⟩:=YB h;obtain ⟨ad,cap,w3,ht,ag,dh,ha,hb⟩:=P1 (hx ▸ hs x x' h1);have m7:=VG ty e inf hu hi hs h2 h3 ad len cap l u hl hh h0 An ib dh m.w;refine DJ hm ?_ (.ca (.one (.row s t z (off+l.toNat) (u.toNat-l.toNat) (if cap=l.toNat then ad else ad.map (·.add (l.toNat*inf.size))) (cap-l.toNat) ht ag (by omega) (λ hp => ?_) λ b j4 => ?_)))
 ·simp only[execOp,j5,w3,Sem.run_bind,Option.map_none,m7]
  rfl
 ·rw[if_neg (by omega)]
  obtain ⟨uq,rfl⟩:=Option.isSome_iff_exists.1 (ha (by omega));rfl
 ·obtain ⟨jn,ae⟩:=hb b j4
  refine ⟨jn,?_⟩;rcases ae with ⟨nv,ct⟩|⟨g,arr,e',hg,fe,Aj,hle⟩
  ·exact .inl ⟨by omega,by omega⟩
  ·by_cases hc:cap=l.toNat
   ·exact .inl ⟨by omega,by omega⟩
   ·refine .inr ⟨g,arr,e',hg,?_,Aj,?_⟩
    ·rw[if_neg hc,fe,o8,hz]
     simp only[Option.map_some,F4,Nat.add_mul]
    ·rw[show off+l.toNat+(cap-l.toNat)=off+cap by omega]
     exact hle
theorem tN (hm:BD B S w0 m) (hs:B3 B S m ρ a.eval) {a4:Nat} {x':AM} {ig m6:Option AM} (h:A6 P num o.op (.de a4 x' ig m6)=true) {lt:Bool} {es:List (List AV)} {l u:Int} (hx:ρ x' = .sl lt es) (hl:F5 ρ 0 ig=some l) (hh:F5 ρ es.length m6=some u) (h0:0<=l) (An:l<=u) (ib:u<=es.length) (hz : ∀ e∈es,e.length=a4) :
  B8 B S w0 P o a m (.val (.sl lt ((es.take u.toNat).drop l.toNat))):=by
 obtain ⟨ty,x,lo,lf,e,inf,j5,h1,h2,h3,hu,hi,o8,k7⟩:=YB h;have dz:=T6 (hx ▸ hs x x' h1);generalize w3:a.eval x=v at dz;cases dz with
 | dd _ ad cap =>
  have m7:=VG ty e inf hu hi hs h2 h3 ad 0 cap l u hl hh h0 An (by simpa using ib) (by omega) m.w;simp only[List.length_nil]at ib;rw[show (([]:List (List AV)).take u.toNat).drop l.toNat=[] by simp];refine DJ hm (u := .slice (if cap=l.toNat then ad else ad.map (·.add (l.toNat*inf.size))) 0 (cap-l.toNat)) ?_ (.ca (.one (.rd (.dd lt _ _))));simp only[execOp,j5,w3,Sem.run_bind,Option.map_none,m7];rw[show u.toNat-l.toNat=0 by omega];rfl
 | sl _ _ b ob o3 cap uu mz hp hR v3 db hc hr =>
  have m7:=VG ty e inf hu hi hs h2 h3 (some ⟨b,ob,none⟩) es.length cap l u hl hh h0 An ib v3 m.w;have zq:o3=a4:=by
   cases es with
   | nil=>exact absurd rfl mz
   | cons q r=>rw[<-db q (by simp),hz q (by simp)]
  subst zq;by_cases ag:u.toNat-l.toNat=0
  ·have:(es.take u.toNat).drop l.toNat=[]:=by
    apply List.eq_nil_of_length_eq_zero;simp;omega
   rw[this];refine DJ hm (u := .slice (if cap=l.toNat then some ⟨b,ob,none⟩ else (some (⟨b,ob,none⟩:Addr)).map (·.add (l.toNat*inf.size))) 0 (cap-l.toNat)) ?_ (.ca (.one (.rd (Rd.dd lt _ _))));simp only[execOp,j5,w3,Sem.run_bind,Option.map_none,m7];rw[ag];rfl
  ·have hlen:((es.take u.toNat).drop l.toNat).length=u.toNat-l.toNat:=by simp;omega
   have l6 : ∀ i,i<u.toNat-l.toNat->((es.take u.toNat).drop l.toNat)[i]? = es[l.toNat+i]? := λ i m6=>by
    rw[List.getElem?_drop,List.getElem?_take,if_pos (by omega)]
   refine DJ hm (u := .slice (some ⟨b,ob+l.toNat*o3,none⟩) ((es.take u.toNat).drop l.toNat).length (cap-l.toNat)) ?_ (.ca (.one (.rd (.sl lt _ b (ob+l.toNat*o3) o3 (cap-l.toNat) (λ i j=>uu (l.toNat+i) j) (λ e=>ag (by rw[<-hlen,e];rfl)) hp hR (by rw[hlen];omega) (λ q hq=>db q (List.mem_of_mem_take (List.mem_of_mem_drop hq))) (λ i q m6 j c hj => ?_) (λ i q m6 j c hj => ?_)))))
   ·simp only[execOp,j5,w3,Sem.run_bind,Option.map_none,m7]
    rw[if_neg (by omega),hlen,o8];simp only[Option.map_some,F4];rfl
   ·have z8:i<u.toNat-l.toNat:=by rw[<-hlen];exact (zS m6).1
    rw[l6 i z8]at m6;rw[show ob+l.toNat*o3+(i*o3+j)=ob+((l.toNat+i)*o3+j) by rw[Nat.add_mul];omega];exact hc _ q m6 j c hj
   ·have z8:i<u.toNat-l.toNat:=by rw[<-hlen];exact (zS m6).1
    rw[l6 i z8]at m6;exact hr _ q m6 j c hj
structure Q2 (B:Nat) (S:Nat->Prop) (m:M) (a4:Nat) (ys:List (List AV)) (ad:Option Addr) (news:List Value):Prop where
 len:news.length=ys.length*a4
 cells : ∀ b,ad=some b -> ∀ j v,news[j]? = some v->m.w.cell? (b.add j)=some v
 some_:ys≠[]->ad.isSome=true
 rel : ∀ i cs,ys[i]? = some cs -> ∀ j c,cs[j]? = some c -> ∃ u,news[i*a4+j]? = some u/\CC B S m c u
theorem rY (a4 i j:Nat) (h:j<a4):(i*a4+j)/a4=i/\(i*a4+j)%a4=j:=by
 constructor
 ·rw[Nat.add_comm,Nat.add_mul_div_right _ _ (by omega),Nat.div_eq_of_lt h,Nat.zero_add]
 ·rw[Nat.add_comm,Nat.add_mul_mod_self_right,Nat.mod_eq_of_lt h]
theorem W9 (hm:BD B S w0 m) {av:AV} {v:Value} (hc:CV B S m av v) {ys:List (List AV)} (he:DS m.own av=some ys) {a4:Nat} (hz : ∀ e∈ys,e.length=a4) (h0:0<a4) :
  ∃ ad cap news,v = .slice ad ys.length cap/\Q2 B S m a4 ys ad news:=by
 cases av with
 | sl l es =>
  simp only[DS,Option.some.injEq]at he;subst he;cases T6 hc with
  | dd _ ad cap=>exact ⟨ad,cap,[],rfl,by simp,λ b _ j v hv=>by simp at hv,λ h=>absurd rfl h,λ i cs hi=>by simp at hi⟩
  | sl _ _ b ob o3 cap uu mz hp hR v3 db n0 hr =>
   have zq:o3=a4:=by
    cases es with
    | nil=>exact absurd rfl mz
    | cons q r=>rw[<-db q (by simp),hz q (by simp)]
   subst zq;refine ⟨some ⟨b,ob,none⟩,cap,(List.range (es.length*o3)).map (λ k=>uu (k/o3) (k%o3)),rfl,by simp,λ b' j4 j v hv => ?_,λ_=>rfl,λ i cs hi j c hj => ?_⟩
   ·obtain rfl:(⟨b,ob,none⟩:Addr)=b':=by simpa using j4
    rw[List.getElem?_map]at hv;have z9:j<es.length*o3:=by
     rcases Nat.lt_or_ge j (es.length*o3) with h|h
     ·exact h
     ·rw[List.getElem?_eq_none (by simpa using h)]at hv;cases hv
    rw[List.getElem?_range z9]at hv;simp only[Option.map_some,Option.some.injEq]at hv;subst hv;have hd:j/o3<es.length:=Nat.div_lt_of_lt_mul (by rw[Nat.mul_comm];exact z9);have De:j%o3<o3:=Nat.mod_lt _ h0;have y9:(es[j/o3]).length=o3:=db _ (List.getElem_mem hd);have:=n0 (j/o3) _ (zE hd) (j%o3) _ (zE (by rw[y9];exact De))
    rw[F4,<-this];congr 2;have:=Nat.div_add_mod j o3
    rw[Nat.mul_comm]at this;omega
   ·have z9:j<o3:=by rw[<-db cs (zM hi)];exact (zS hj).1
    have z8:i<es.length:=(zS hi).1;have k6:i*o3+j<es.length*o3:=by
     have:(i+1)*o3<=es.length*o3:=zR _ z8
     rw[Nat.succ_mul]at this;omega
    obtain ⟨e1,e2⟩:=rY o3 i j z9;refine ⟨uu i j,?_,.rd (hr i cs hi j c hj)⟩;rw[List.getElem?_map,List.getElem?_range k6];simp [e1,e2]
 | nil =>
  simp only[DS,Option.some.injEq]at he;subst he;exact ⟨none,0,[],P0 hc,by simp,λ b hb=>(by cases hb),λ h=>absurd rfl h,λ i cs hi=>by simp at hi⟩
 | row s t z off len =>
  obtain ⟨ad,cap,hv,ht,ag,dh,ha,hb⟩:=P1 hc;simp only[DS]at he;cases l6:m.own.get s t with
  | none=>simp [l6]at he
  | some b =>
   simp only[l6]at he;split at he
   ·rename_i hle
    obtain ⟨hle,jn⟩:=hle;obtain rfl:=Option.some.inj he;have vt:((b.es.drop off).take len).length=len:=by simp;omega
    obtain ⟨_,ae⟩:=hb b l6;by_cases nv:len=0
    ·subst nv
     refine ⟨ad,cap,[],by simpa using hv,by simp,λ b _ j v hv=>by simp at hv,λ h=>absurd (by simp) h,λ i cs hi=>by simp at hi⟩
    ·rcases ae with ⟨h1,_⟩|⟨g,arr,e',hg,fe,Aj,Oi⟩
     ·exact absurd h1 nv
     ·obtain ⟨db,x9⟩:=hm.c7 s t b l6
      rw[hg]at x9;obtain ⟨hB,lv,e2,qo,q7⟩:=x9;rw[Aj]at qo;obtain ⟨rfl,rfl⟩:arr=lv/\e'=e2:=by simpa using qo
      have Nm:a4=z:=by
       have k6:off<b.es.length:=by omega
       have h1:b.es[off]∈(b.es.drop off).take len:=by
        have:((b.es.drop off).take len)[0]? = some b.es[off]:=by
         rw[List.getElem?_take,if_pos (by omega),List.getElem?_drop];simp [k6]
        exact zM this
       rw[<-hz _ h1,db _ (List.getElem_mem k6),jn]
      subst Nm;have o8:off*a4+len*a4<=arr.size:=by
       have:(off+len)*a4<=(off+cap)*a4:=zR _ (by omega)
       rw[Nat.add_mul]at this;omega
      refine ⟨ad,cap,(arr.toList.drop (off*a4)).take (len*a4),by rw[vt];exact hv,by rw[vt];simp;omega,λ b' j4 j v dk => ?_,λ_=>by rw[fe];rfl,λ i cs hi j c hj => ?_⟩
      ·rw[fe]at j4
       obtain rfl:(⟨g,off*a4,none⟩:Addr)=b':=by simpa using j4
       rw[List.getElem?_take]at dk;split at dk
       ·rw[List.getElem?_drop]at dk
        rw[F4,TT Aj];simpa using dk
       ·cases dk
      ·rw[List.getElem?_take]at hi
       split at hi
       ·rename_i z8
        rw[List.getElem?_drop]at hi;have z9:j<a4:=by rw[<-jn,<-db cs (zM hi)];exact (zS hj).1
        obtain ⟨u,hu,bg⟩:=q7 (off+i) cs hi j c hj;refine ⟨u,?_,bg⟩;have k6:i*a4+j<len*a4:=by
         have:(i+1)*a4<=len*a4:=zR _ z8
         rw[Nat.succ_mul]at this;omega
        rw[List.getElem?_take,if_pos k6,List.getElem?_drop,<-hu,jn];simp only[Array.getElem?_toList];congr 1;rw[Nat.add_mul];omega
       ·cases hi
   ·cases he
 | w6 v' =>
  cases v' with
  | bool b =>
   simp only[DS,Option.some.injEq]at he;subst he;obtain ⟨ad,cap,hv,_⟩:=cR hc;exact ⟨ad,cap,[],hv,by simp,λ b' j4 j v dk=>by simp at dk,λ h=>absurd rfl h,λ i cs hi=>by simp at hi⟩
  | _=>simp [DS]at he
 | _=>simp [DS]at he
theorem Q2.one {a4:Nat} {ys:List (List AV)} {ad:Option Addr} {news:List Value} (h:Q2 B S m a4 ys ad news) (h0:0<a4) (hz : ∀ e∈ys,e.length=a4) : ∀ u∈news,u.oneCell'=true:=by
 intro u hu;obtain ⟨k,hk,rfl⟩:=List.getElem_of_mem hu;rw[h.len]at hk;have hd:k/a4<ys.length:=Nat.div_lt_of_lt_mul (by rw[Nat.mul_comm];exact hk);have De:k%a4<a4:=Nat.mod_lt _ h0;have y9:(ys[k/a4]).length=a4:=hz _ (List.getElem_mem hd);obtain ⟨u',fi,hc⟩:=h.rel (k/a4) _ (zE hd) (k%a4) _ (zE (by rw[y9];exact De));have iv:k/a4*a4+k%a4=k:=by
  have:=Nat.div_add_mod k a4
  rw[Nat.mul_comm]at this;exact this
 rw[iv]at fi;obtain rfl:news[k]=u':=by
  have:=(zS fi).2
  exact this
 exact hc.one
theorem Q2.src {a4:Nat} {ys:List (List AV)} {ad:Option Addr} {news:List Value} (h:Q2 B S m a4 ys ad news) (h0:0<a4) (hz : ∀ e∈ys,e.length=a4) {t e:TypeId} (hu:P.underlying t=some (.slice e)) (cap:Nat):Src P a4 t (.slice ad ys.length cap) ys.length news m.w:=by
 cases ad with
 | none =>
  have pn:ys=[]:=by
   cases ys with
   | nil=>rfl
   | cons y r=>exact absurd (h.some_ (by simp)) (by simp)
  subst pn;have hn:news=[]:=List.eq_nil_of_length_eq_zero (by simpa using h.len);subst hn;exact Src.ofNil m.w hu cap
 | some b=>exact Src.ofSlice m.w hu b ys.length cap news h.len (h.cells b rfl) (h.one h0 hz)
theorem Js (arr:Array Value) (off:Nat) (news:List Value) (h:off+news.length<=arr.size) (p:Nat):(arr.toList.take off++news++arr.toList.drop (off+news.length)).toArray[p]? = if p<off then arr[p]? else if p<off+news.length then news[p-off]? else arr[p]? := by
 simp only[List.getElem?_toArray];rw[ZU _ _ _ (by simpa using h)];simp only[Array.getElem?_toList]
theorem Ix (t tx e ex:TypeId) (i:TypeInfo) (ht:P.underlying t=some (.slice e)) (hx:P.underlying tx=some (.slice ex)) (hi:P.info? e=some i) (g off jd kr:Nat) (x:Value) (n:Nat) (news:List Value) (w:World) (hs:Src P i.size tx x n news w) (gj:jd+n<=kr) (arr:Array Value) (e':TypeId)
  (hh:w.heap[g]? = some (.cells arr e' (0,0))) (o8:off+jd*i.size+news.length<=arr.size) (ty:TypeId) :
  (Builtin.append_ #[t,tx] ty #[.slice (some ⟨g,off,none⟩) jd kr,x]).run P w = .ok (.slice (some ⟨g,off,none⟩) (jd+n) kr) (w.setRow g (arr.toList.take (off+jd*i.size)++news++arr.toList.drop (off+jd*i.size+news.length)).toArray):=by
 have g8:=run_storeCells_at (P:=P) g (off+jd*i.size) e' news 0 arr w hh (by omega) hs.one;simp only[Nat.add_zero]at g8;simp [Builtin.append_,run_underlying ht,run_underlying hx,sizeOf,typeInfo,hi,hs.len,gj,hs.cells,F4,g8]
theorem kE (t tx e ex:TypeId) (i:TypeInfo) (ht:P.underlying t=some (.slice e)) (hx:P.underlying tx=some (.slice ex)) (hi:P.info? e=some i) (ad:Option Addr) (kr:Nat) (x:Value) (w:World) (hs:Src P i.size tx x 0 [] w) (ty:TypeId) :
  (Builtin.append_ #[t,tx] ty #[.slice ad 0 kr,x]).run P w = .ok (.slice ad 0 kr) w:=by
 have hc:=hs.cells;cases ad<;>simp [Builtin.append_,run_underlying ht,run_underlying hx,sizeOf,typeInfo,hi,hs.len,hc,storeCells]
theorem SP {x y:Operand} {t tx:TypeId} (j5:o.op = .call ⟨.builtin .append,#[x,y],#[t,tx]⟩) {u:Value} {w w':World} (h:(Builtin.append_ #[t,tx] o.type #[a.eval x,a.eval y]).run P w = .ok u w'):(execOp a.eval o).run P w = .ok (.value u) w':=by
 simp [execOp,j5,resolve,invoke,builtin,h]
theorem wX (x0 news:List Value) (z:Array Value) (k p:Nat) (h:p<x0.length+news.length):((x0++news).toArray++Builtin.zeroCells z k)[p]? = (x0++news)[p]? := by
 rw[Array.getElem?_append_left (by simpa using h)];simp
theorem Is {a4 len:Nat} {xs ys:List (List AV)} {x0 news:List Value} (zl:xs.length=len) (vi:x0.length=len*a4) (Rr : ∀ e∈xs,e.length=a4)
  (hx : ∀ i cs,xs[i]? = some cs -> ∀ j c,cs[j]? = some c -> ∃ u,x0[i*a4+j]? = some u/\CC B S m c u)
  (hy : ∀ i cs,ys[i]? = some cs -> ∀ j c,cs[j]? = some c -> ∃ u,news[i*a4+j]? = some u/\CC B S m c u) :
  ∀ i cs,(xs++ys)[i]? = some cs -> ∀ j c,cs[j]? = some c -> ∃ u,(x0++news)[i*a4+j]? = some u/\CC B S m c u:=by
 intro i cs hi j c hj;by_cases z8:i<len
 ·rw[List.getElem?_append_left (by omega)]at hi
  obtain ⟨u,hu,hc⟩:=hx i cs hi j c hj;exact ⟨u,by rw[List.getElem?_append_left (by have:=(zS hu).1;omega)];exact hu,hc⟩
 ·rw[List.getElem?_append_right (by omega),zl]at hi
  obtain ⟨u,hu,hc⟩:=hy (i-len) cs hi j c hj;refine ⟨u,?_,hc⟩;have e1:i*a4=len*a4+(i-len)*a4:=by rw[<-Nat.add_mul];congr 1;omega
  rw[List.getElem?_append_right (by omega),<-hu];congr 1;omega
theorem iY {s z n cap:Nat} {es:List (List AV)} {w':World} {g t:Nat} {arr:Array Value} {e:TypeId} (hz:0<z) (hn:n<=cap) (hg:w'.heap[g]? = some (.cells arr e (0,0))) (hc:cap*z<=arr.size) :
  CV B S ⟨e6 m s (some g),m.own.put s (((m.own s).m9 t none).new ⟨z,es⟩),w'⟩ (.row s (m.own.c9 s) z 0 n) (.slice (some ⟨g,0,none⟩) n cap):=by
 refine .ca (.one (.row s (m.own.c9 s) z 0 n _ cap ?_ hz hn (λ_=>rfl) λ b' j4=>⟨?_,.inr ⟨g,arr,e,?_,by simp,hg,by simpa using hc⟩⟩))
 ·show _<AE.c9 _ s
  rw[T3];simp
 ·change AE.get _ s _=some b' at j4
  rw[OY,if_pos ⟨rfl,rfl⟩]at j4;obtain rfl:(⟨z,es⟩:C6)=b':=by simpa using j4
  rfl
 ·simp [e6]
theorem qI (hm:BD B S w0 m) (ob:Obj):Below B w0 (m.w.drew.alloc ob):=hm.below.drew.alloc (by simpa using hm.size) ob
theorem sG (hm:BD B S w0 m) (hs:B3 B S m ρ a.eval) {s a4 bytes:Nat} {x' y':AM} (h:A6 P num o.op (.app s a4 bytes x' y')=true) {ys:List (List AV)} (hy:DS m.own (ρ y')=some ys) (hz : ∀ e∈ys,e.length=a4) {s' t len:Nat} {b:C6} (hx:ρ x' = .row s' t a4 0 len) (l6:m.own.get s' t=some b)
  (jn:b.a4=a4) (hle:len<=b.es.length) (gj:(len+ys.length)*bytes<=FF) (Bl:len+ys.length<=9223372036854775807) :
  B8 B S w0 P o a m (.aj (.row s' (m.own.c9 s') a4 0 (len+ys.length)) (m.own.put s' (((m.own s').m9 t none).new ⟨a4,b.es.take len++ys⟩))):=by
 obtain ⟨x,y,ty,e,i,z,tx,ex,j5,h1,h2,hu,hi,o8,mg,ag,db,k7,vo⟩:=gV h;have h0:0<a4:=Nat.pos_of_ne_zero k7;obtain ⟨ad,cap,w3,ht,_,dh,ha,hb⟩:=P1 (hx ▸ hs x x' h1);obtain ⟨ry,eb,news,oa,y9⟩:=W9 hm (hs y y' h2) hy hz h0;have kj:Src P i.size tx (.slice ry ys.length eb) ys.length news m.w:=by rw[o8];exact y9.src h0 hz vo eb
 obtain ⟨Ad,x9⟩:=hm.c7 s' t b l6;obtain ⟨_,ae⟩:=hb b l6;have eu:(b.es.take len).length=len:=by simp;omega
 have rm : ∀ q∈b.es.take len++ys,q.length=a4:=λ q hq=>by
  rcases List.mem_append.1 hq with hq|hq
  ·rw[<-jn];exact Ad q (List.mem_of_mem_take hq)
  ·exact hz q hq
 intro K Q hK;by_cases oy:len+ys.length<=cap
 ·rcases ae with ⟨nv,ct⟩|⟨g,arr,e',hg,fe,hh,Cj⟩
  ·have pn:ys=[]:=List.eq_nil_of_length_eq_zero (by omega)
   subst pn;subst nv ct;have tu:news=[]:=List.eq_nil_of_length_eq_zero (by simpa using y9.len);subst tu;have m7:=kE ty tx e ex i hu vo hi ad 0 (.slice ry 0 eb) m.w (by simpa using kj) o.type;obtain ⟨k1,k2⟩:=YP hm s' t b ⟨a4,b.es.take 0++[]⟩ l6 none m.w hm.below (Nat.le_refl _) (λ_ _ _=>rfl) (by simp) (by simp) (by simp);refine M6 (SP j5 (by rw[w3,oa];simpa using m7)) (hK _ ⟨e6 m s' none,m.own.put s' (((m.own s').m9 t none).new ⟨a4,b.es.take 0++[]⟩),m.w⟩ rfl k1 k2 (.ca (.one (.row s' (m.own.c9 s') a4 0 0 ad 0 ?_ h0 (Nat.le_refl _) (λ h=>by omega) λ b' j4=>⟨?_,.inl ⟨rfl,rfl⟩⟩))))
   ·show _<AE.c9 _ s'
    rw[T3];simp
   ·change AE.get _ s' _=some b' at j4
    rw[OY,if_pos ⟨rfl,rfl⟩]at j4;obtain rfl:(⟨a4,b.es.take 0++[]⟩:C6)=b':=by simpa using j4
    rfl
  ·have sn:ad=some ⟨g,0,none⟩:=by simpa using fe
   rw[hg]at x9;obtain ⟨hB,lv,e2,qo,q7⟩:=x9;rw[hh]at qo;obtain ⟨rfl,rfl⟩:arr=lv/\e'=e2:=by simpa using qo
   have qu:news.length=ys.length*a4:=y9.len;have hbound:len*a4+news.length<=arr.size:=by
    have:(len+ys.length)*a4<=(0+cap)*a4:=zR _ (by omega)
    rw[Nat.add_mul]at this;omega
   have m7:=Ix ty tx e ex i hu vo hi g 0 len cap (.slice ry ys.length eb) ys.length news m.w kj oy arr e' hh (by rw[o8];omega) o.type;rw[o8,Nat.zero_add]at m7;generalize fw:(arr.toList.take (len*a4)++news++arr.toList.drop (len*a4+news.length)).toArray=n9 at m7;have z7 : ∀ p,n9[p]? = if p<len*a4 then arr[p]? else if p<len*a4+news.length then news[p-len*a4]? else arr[p]? := λ p=>by rw[<-fw];exact Js arr (len*a4) news hbound p
   have ix:n9.size=arr.size:=by rw[<-fw];simp;omega
   obtain ⟨k1,k2⟩:=YP hm s' t b ⟨a4,b.es.take len++ys⟩ l6 (some g) (m.w.setRow g n9) (bS hm hB n9) (by simp) (λ k _ mz=>setRow_other _ _ _ _ (λ e=>mz (e ▸ hg))) rm (by simp) (λ g' eo=>by
    obtain rfl:g=g':=by simpa using eo
    refine ⟨hB,.inr hg,n9,e',setRow_heap _ _ _ _ _ _ hh,λ i' cs m6 j c hj => ?_⟩;show ∃ u,n9[i'*a4+j]? = some u/\_;by_cases z8:i'<len
    ·rw[List.getElem?_append_left (by omega),List.getElem?_take,if_pos z8]at m6
     have z9:j<a4:=by rw[<-jn,<-Ad cs (zM m6)];exact (zS hj).1
     obtain ⟨u,fi,bg⟩:=q7 i' cs m6 j c hj;refine ⟨u,?_,bg⟩;have:(i'+1)*a4<=len*a4:=zR _ z8
     rw[Nat.succ_mul]at this;rw[z7,if_pos (by omega),<-fi,jn]
    ·rw[List.getElem?_append_right (by omega),eu]at m6
     obtain ⟨u,fi,bg⟩:=y9.rel (i'-len) cs m6 j c hj;refine ⟨u,?_,bg⟩;have ib:=(zS fi).1;have e1:i'*a4=len*a4+(i'-len)*a4:=by rw[<-Nat.add_mul];congr 1;omega
     rw[z7,if_neg (by omega),if_pos (by omega),<-fi];congr 1;omega)
   exact M6 (SP j5 (by rw[w3,oa,sn];exact m7)) (hK _ ⟨e6 m s' (some g),m.own.put s' (((m.own s').m9 t none).new ⟨a4,b.es.take len++ys⟩),m.w.setRow g n9⟩ rfl k1 k2 (iY h0 oy (setRow_heap _ _ _ _ _ _ hh) (by rw[ix];simpa using Cj)))
 ·have qm:cap<len+ys.length:=by omega
  obtain ⟨x0,vi,hold,Ec⟩ : ∃ x0:List Value,x0.length=len*a4/\(Builtin.firstCells i.size len (.slice ad len cap)).run P m.w.drew = .ok x0.toArray m.w.drew/\(∀ i' cs,(b.es.take len)[i']? = some cs -> ∀ j c,cs[j]? = some c -> ∃ u,x0[i'*a4+j]? = some u/\CC B S m c u):=by
   rcases ae with ⟨nv,ct⟩|⟨g,arr,e',hg,fe,hh,Cj⟩
   ·subst nv
    refine ⟨[],by simp,?_,λ i' cs m6=>by simp at m6⟩;cases ad with
    | none=>exact run_firstCells_none m.w.drew i.size 0 0 cap
    | some uq=>exact run_firstCells_some m.w.drew i.size 0 uq 0 cap [] (by simp) (λ j v hv=>by simp at hv)
   ·have sn:ad=some ⟨g,0,none⟩:=by simpa using fe
    rw[hg]at x9;obtain ⟨hB,lv,e2,qo,q7⟩:=x9;rw[hh]at qo;obtain ⟨rfl,rfl⟩:arr=lv/\e'=e2:=by simpa using qo
    have n0:len*a4<=arr.size:=by
     have:len*a4<=(0+cap)*a4:=zR _ (by omega)
     omega
    refine ⟨arr.toList.take (len*a4),by simp;omega,?_,λ i' cs m6 j c hj => ?_⟩
    ·rw[sn]
     refine run_firstCells_some m.w.drew i.size len ⟨g,0,none⟩ len cap _ (by rw[o8];simp;omega) (λ j v hv => ?_);rw[List.getElem?_take]at hv;split at hv
     ·rw[F4,TT (w:=m.w.drew) (show m.w.heap[g]? = _ from hh)]
      simpa using hv
     ·cases hv
    ·rw[List.getElem?_take]at m6
     split at m6
     ·rename_i z8
      have z9:j<a4:=by rw[<-jn,<-Ad cs (zM m6)];exact (zS hj).1
      obtain ⟨u,fi,bg⟩:=q7 i' cs m6 j c hj;refine ⟨u,?_,bg⟩;have:(i'+1)*a4<=len*a4:=zR _ z8
      rw[Nat.succ_mul]at this;rw[List.getElem?_take,if_pos (by omega),<-fi,jn];simp
     ·cases m6
  have m7:=run_append_grow_src (P:=P) m.w ty tx o.type e i z hu hi ag ad len cap x0 hold (.slice ry ys.length eb) ys.length news kj qm (by omega) (growslice_fits qm (by rw[mg];exact gj));have qu:news.length=ys.length*a4:=y9.len;have v3:len+ys.length<=grownCap m.w (len+ys.length) cap e:=grownCap_ge _ _ _ _;generalize Ai:grownCap m.w (len+ys.length) cap e=gc at m7 v3;have cr:=qI hm (.cells ((x0++news).toArray++Builtin.zeroCells z.cells (gc-(len+ys.length))) e);have fg:(m.w.drew.alloc (.cells ((x0++news).toArray++Builtin.zeroCells z.cells (gc-(len+ys.length))) e)).heap[m.w.heap.size]? = some (.cells ((x0++news).toArray++Builtin.zeroCells z.cells (gc-(len+ys.length))) e (0,0)):=heap_alloc_new m.w.drew _;obtain ⟨k1,k2⟩:=YP hm s' t b ⟨a4,b.es.take len++ys⟩ l6 (some m.w.heap.size) _ cr (by simp) (λ k hk _=>Below.heap_alloc m.w.drew _ k hk) rm (by simp) (λ g' eo=>by
   obtain rfl:m.w.heap.size=g':=by simpa using eo
   refine ⟨hm.size,.inl (Nat.le_refl _),_,e,fg,λ i' cs m6 j c hj => ?_⟩;obtain ⟨u,fi,bg⟩:=Is eu vi (λ q hq=>by rw[<-jn];exact Ad q (List.mem_of_mem_take hq)) Ec y9.rel i' cs m6 j c hj;refine ⟨u,?_,bg⟩;rw[wX _ _ _ _ _ (by have:=(zS fi).1;simpa using this)];exact fi)
  refine M6 (SP j5 (by rw[w3,oa];exact m7)) (hK _ ⟨e6 m s' (some m.w.heap.size),m.own.put s' (((m.own s').m9 t none).new ⟨a4,b.es.take len++ys⟩),_⟩ rfl k1 k2 (iY h0 v3 fg ?_));have zp:(Builtin.zeroCells z.cells (gc-(len+ys.length))).size=(gc-(len+ys.length))*a4:=by simp [Builtin.zeroCells,db]
  rw[Array.size_append,zp];simp only[List.size_toArray,List.length_append,vi,qu];rw[<-Nat.add_mul,<-Nat.add_mul];exact zR _ (by omega)
theorem sF (hm:BD B S w0 m) (hs:B3 B S m ρ a.eval) {s a4 bytes:Nat} {x' y':AM} (h:A6 P num o.op (.app s a4 bytes x' y')=true) {ys:List (List AV)} (hy:DS m.own (ρ y')=some ys) (hz : ∀ e∈ys,e.length=a4) (hx:ρ x' = .nil)
  (gj:ys.length*bytes<=FF) (Bl:ys.length<=9223372036854775807) :
  B8 B S w0 P o a m (.aj (.row s (m.own.c9 s) a4 0 ys.length) (m.own.put s ((m.own s).new ⟨a4,ys⟩))):=by
 obtain ⟨x,y,ty,e,i,z,tx,ex,j5,h1,h2,hu,hi,o8,mg,ag,db,k7,vo⟩:=gV h;have h0:0<a4:=Nat.pos_of_ne_zero k7;have w3:=P0 (hx ▸ hs x x' h1);obtain ⟨ry,eb,news,oa,y9⟩:=W9 hm (hs y y' h2) hy hz h0;have kj:Src P i.size tx (.slice ry ys.length eb) ys.length news m.w:=by rw[o8];exact y9.src h0 hz vo eb
 intro K Q hK;by_cases pn:ys=[]
 ·subst pn
  have tu:news=[]:=List.eq_nil_of_length_eq_zero (by simpa using y9.len);subst tu;have m7:=kE ty tx e ex i hu vo hi none 0 (.slice ry 0 eb) m.w (by simpa using kj) o.type;obtain ⟨k1,k2⟩:=lX hm s a4;refine M6 (SP j5 (by rw[w3,oa];simpa using m7)) (hK _ ⟨e6 m s none,m.own.put s ((m.own s).new ⟨a4,[]⟩),m.w⟩ rfl k1 k2 (.ca (.one (.row s (m.own.c9 s) a4 0 0 none 0 ?_ h0 (Nat.le_refl _) (λ h=>by omega) λ b' j4=>⟨?_,.inl ⟨rfl,rfl⟩⟩))))
  ·show _<AE.c9 _ s
   rw[JA];simp
  ·change AE.get _ s _=some b' at j4
   rw[E7,if_pos ⟨rfl,rfl⟩]at j4;obtain rfl:(⟨a4,[]⟩:C6)=b':=by simpa using j4
   rfl
 ·have Dt:0<ys.length:=List.length_pos_iff.2 pn
  have m7:=run_append_grow_src (P:=P) m.w ty tx o.type e i z hu hi ag none 0 0 [] (run_firstCells_none m.w.drew i.size 0 0 0) (.slice ry ys.length eb) ys.length news kj (by omega) (by omega) (growslice_fits (by omega) (by rw[mg,Nat.zero_add];exact gj));simp only[Nat.zero_add,List.nil_append]at m7;have qu:news.length=ys.length*a4:=y9.len;have v3:ys.length<=grownCap m.w ys.length 0 e:=grownCap_ge _ _ _ _;generalize Ai:grownCap m.w ys.length 0 e=gc at m7 v3;have hd:Below m.w.heap.size m.w m.w.drew:=(Below.refl _ _).drew;obtain ⟨iw,xp⟩:=grow hm hd;obtain ⟨k1,k2⟩:=WF iw s ⟨a4,ys⟩ (news.toArray++Builtin.zeroCells z.cells (gc-ys.length)) e hz (λ i' cs m6 j c hj=>by
   obtain ⟨u,fi,bg⟩:=y9.rel i' cs m6 j c hj;refine ⟨u,?_,xp.cc bg⟩;have ib:=(zS fi).1;show (news.toArray++Builtin.zeroCells z.cells (gc-ys.length))[i'*a4+j]? = some u;rw[Array.getElem?_append_left (by simpa using ib)];simpa using fi)
  have zp:(Builtin.zeroCells z.cells (gc-ys.length)).size=(gc-ys.length)*a4:=by simp [Builtin.zeroCells,db]
  refine M6 (SP j5 (by rw[w3,oa];exact m7)) (hK _ ⟨e6 ⟨m.ν,m.own,m.w.drew⟩ s (some m.w.drew.heap.size),m.own.put s ((m.own s).new ⟨a4,ys⟩),_⟩ rfl k1 (xp.trans k2) (jB (m:=⟨m.ν,m.own,m.w.drew⟩) h0 v3 (heap_alloc_new m.w.drew _) ?_));rw[Array.size_append,zp];simp only[List.size_toArray,qu];rw[<-Nat.add_mul];exact zR _ (by omega)
end
end Go.c8

namespace Go.c8
open Go.RowKit
section
variable {B:Nat} {S:Nat->Prop} {w0:World} {m:M}
variable {P:Program} {num:Nat->Nat} {o:Oper} {a:Act} {ρ:AM->AV}
structure FS (P:Program) (num:Nat->Nat) (C:Cl):Prop where
 ma : ∀ (f:Nat) (vs:List AV) (r:AV),C.pure f vs=some r -> ∀ (us:Array Value) (w:World),(callFunc (num f) us).run P w = .ok (.enter (num f) us) w
 im : ∀ (f:Nat) (vs:List AV) (own:AE) (r:AV × AE),C.y6 f vs own=some r -> ∀ (us:Array Value) (w:World),(callFunc (num f) us).run P w = .ok (.enter (num f) us) w
 pure : ∀ (f:Nat) (vs:List AV) (r:AV),C.pure f vs=some r -> ∀ (S:Nat->Prop) (w:World) (us:List Value),vs.length=us.length->(∀ (j:Nat) (c:AV) (v:Value),vs[j]? = some c->us[j]? = some v->CA w.heap.size S ⟨λ_ _=>none,AE.emp,w⟩ c v) ->
  Calls P (num f) us.toArray w λ e w' => ∃ u,e = .returned u/\Below w.heap.size w w'/\CV w.heap.size S ⟨λ_ _=>none,AE.emp,w'⟩ r u/\AZ r
 y6 : ∀ (f:Nat) (vs:List AV) (own:AE) (r:AV) (j7:AE),C.y6 f vs own=some (r,j7) -> ∀ (B:Nat) (S:Nat->Prop) (w0:World) (m:M) (us:List Value),m.own=own->BD B S w0 m->vs.length=us.length->(∀ (j:Nat) (c:AV) (v:Value),vs[j]? = some c->us[j]? = some v->CV B S m c v) ->
  Calls P (num f) us.toArray m.w λ e w' => ∃ u m',e = .returned u/\m'.w=w'/\m'.own=j7/\BD B S w0 m'/\CS B S m m'/\CV B S m' r u
 num:C.num=num
end
end Go.c8

namespace Go.c8
open Go.RowKit
theorem MR {α β:Type} (f:α->Option β) : ∀ {l:List α} {l':List β},l.mapM f=some l'->l.length=l'.length /\ ∀ (i:Nat) (x:α),l[i]? = some x -> ∃ y,l'[i]? = some y/\f x=some y
 | [],l',h=>by
  simp at h;subst h;exact ⟨rfl,λ i x hx=>by simp at hx⟩
 | x::r,l',h=>by
  simp only[List.mapM_cons,Option.bind_eq_bind,Option.pure_def]at h;cases hx:f x with
  | none=>simp [hx]at h
  | some y =>
   cases hr:r.mapM f with
   | none=>simp [hx,hr]at h
   | some r' =>
    simp [hx,hr]at h;subst h;obtain ⟨h1,h2⟩:=MR f hr;refine ⟨by simp [h1],λ i z hz => ?_⟩;cases i with
    | zero=>simp at hz;subst hz;exact ⟨y,rfl,hx⟩
    | succ i=>exact h2 i z (by simpa using hz)
section
variable {B:Nat} {S:Nat->Prop} {w0:World} {m:M}
variable {P:Program} {num:Nat->Nat} {o:Oper} {a:Act} {ρ:AM->AV}
theorem kZ (hm:BD B S w0 m) (l0:Bool) (R:Bool->Nat->Prop) (hR : ∀ l b,b<m.w.heap.size->safe B S m l b->R l b) (hL : ∀ s t g,live m s t->m.ν s t=some g->R l0 g) :
  ∀ (d:Nat) (c c':AV) (v:Value),snap m.own l0 d c=some c'->CC B S m c v->Rd m.w R c' v:=by
 intro d;induction d with
 | zero =>
  intro c c' v h hc;cases hc with
  | rd hr =>
   have:c'=c:=by cases hr<;>simp [snap]at h<;>exact h.symm
   subst this;exact hr.mono hR (λ_ _ _ _=>rfl)
  | nil=>simp [snap]at h;subst h;exact .dd _ _ _
  | _=>simp [snap]at h
 | succ d ih =>
  intro c c' v h hc;cases hc with
  | rd hr =>
   have:c'=c:=by cases hr<;>simp [snap]at h<;>exact h.symm
   subst this;exact hr.mono hR (λ_ _ _ _=>rfl)
  | nil=>simp [snap]at h;subst h;exact .dd _ _ _
  | ptr=>simp [snap]at h
  | n7=>simp [snap]at h
  | row s t z off len ad cap ht ag dh ha hb =>
   simp only[snap]at h;cases y9:DS m.own (.row s t z off len) with
   | none=>simp [y9]at h
   | some es =>
    simp only[y9]at h;cases cz:es.mapM (λ cs:List AV=>cs.mapM (snap m.own l0 d)) with
    | none=>simp [cz]at h
    | some es' =>
     simp [cz]at h;subst h;have Eu:(∀ e∈es,e.length=z)/\es.length=len /\ ∃ b,m.own.get s t=some b:=by
      simp only[DS]at y9;cases l6:m.own.get s t with
      | none=>simp [l6]at y9
      | some b =>
       simp only[l6]at y9;split at y9
       ·rename_i hle
        obtain rfl:=Option.some.inj y9;refine ⟨λ e he => ?_,by simp;omega,b,rfl⟩;rw[<-hle.2];exact (hm.c7 s t b l6).1 e (List.mem_of_mem_drop (List.mem_of_mem_take he))
       ·cases y9
     obtain ⟨hz,hlen,b,l6⟩:=Eu;have o5:CV B S m (.row s t z off len) (.slice ad len cap):= .ca (.one (.row s t z off len ad cap ht ag dh ha hb));obtain ⟨Mf,Bh,news,As,hE⟩:=W9 hm o5 y9 hz ag;obtain ⟨rfl,_,rfl⟩:ad=Mf/\len=es.length/\cap=Bh:=by simpa using As
     obtain ⟨fo,mn⟩:=MR _ cz;by_cases h0:es=[]
     ·subst h0
      have:es'=[]:=List.eq_nil_of_length_eq_zero (by rw[<-fo];rfl)
      subst this;have:len=0:=by rw[<-hlen];rfl
      subst this;exact .dd _ _ _
     ·obtain ⟨_,ae⟩:=hb b l6
      rcases ae with ⟨Oe,_⟩|⟨g,arr,e',hg,fe,hh,Cj⟩
      ·exact absurd (List.eq_nil_of_length_eq_zero (by omega)) h0
      ·rw[fe,<-hlen,fo]
       refine .sl l0 es' g (off*z) z cap (λ i j=>news.getD (i*z+j) undef) (λ e=>h0 (List.eq_nil_of_length_eq_zero (by rw[fo,e];rfl))) ag (hL s t g ⟨b,l6⟩ hg) (by omega) (λ e' cw => ?_) (λ i e hi j c hj => ?_) (λ i e hi j c hj => ?_)
       ·obtain ⟨i,hi,rfl⟩:=List.getElem_of_mem cw
        have m6:i<es.length:=by omega
        obtain ⟨y,hy,z0⟩:=mn i es[i] (zE m6);have:es'[i]=y:=by
         have:=(zS hy).2;exact this
        rw[this,<-(MR _ z0).1];exact hz _ (List.getElem_mem m6)
       ·have m6:i<es.length:=by rw[fo];exact (zS hi).1
        obtain ⟨y,hy,z0⟩:=mn i es[i] (zE m6);rw[hi]at hy;obtain rfl:e=y:=by simpa using hy
        obtain ⟨da,_⟩:=MR _ z0;have vf:j<(es[i]).length:=by rw[da];exact (zS hj).1
        obtain ⟨u,hu,bg⟩:=hE.rel i es[i] (zE m6) j _ (zE vf);have:=hE.cells _ fe (i*z+j) u hu
        rw[F4]at this;simp only[List.getD,hu,Option.getD_some];exact this
       ·have m6:i<es.length:=by rw[fo];exact (zS hi).1
        obtain ⟨y,hy,z0⟩:=mn i es[i] (zE m6);rw[hi]at hy;obtain rfl:e=y:=by simpa using hy
        obtain ⟨da,eo⟩:=MR _ z0;have vf:j<(es[i]).length:=by rw[da];exact (zS hj).1
        obtain ⟨u,hu,bg⟩:=hE.rel i es[i] (zE m6) j _ (zE vf);obtain ⟨c2,jo,uc⟩:=eo j _ (zE vf);rw[hj]at jo;obtain rfl:c=c2:=by simpa using jo
        simp only[List.getD,hu,Option.getD_some];exact ih _ _ _ uc bg
def DA (w:World) (R:Bool->Nat->Prop) (c:AV) (v:Value):Prop :=
 Rd w R c v \/ ∃ (cs:List AV) (vs:List Value),c = .agg cs/\v = .agg vs.toArray/\cs.length=vs.length /\ ∀ (j:Nat) (x:AV) (u:Value),cs[j]? = some x->vs[j]? = some u->Rd w R x u
theorem VO (hm:BD B S w0 m) (l0:Bool) (R:Bool->Nat->Prop) (hR : ∀ l b,b<m.w.heap.size->safe B S m l b->R l b) (hL : ∀ s t g,live m s t->m.ν s t=some g->R l0 g)
  {c c':AV} {v:Value} (h:CB m.own l0 c=some c') (hc:CV B S m c v):DA m.w R c' v:=by
 cases hc with
 | any v=>simp [CB,snap]at h
 | e7=>simp [CB,snap]at h
 | ca hc=>cases hc with
  | one hc =>
   have h':snap m.own l0 6 c=some c':=by
    cases hc with
    | rd hr=>cases hr<;>simpa [CB] using h
    | _=>simpa [CB] using h
   exact Or.inl (kZ hm l0 R hR hL 6 c c' v h' hc)
  | fn=>simp [CB,snap]at h
  | mb=>simp [CB,snap]at h
  | agg cs vs n0 =>
   simp only[CB]at h;cases ek:cs.mapM (snap m.own l0 6) with
   | none=>simp [ek]at h
   | some y8 =>
    simp [ek]at h;subst h;obtain ⟨h1,h2⟩:=MR _ ek;refine Or.inr ⟨y8,vs,rfl,rfl,h1.symm.trans n0.1,λ j x u hx hu => ?_⟩;have hj:j<cs.length:=by rw[h1];exact (zS hx).1
    obtain ⟨y,hy,z0⟩:=h2 j cs[j] (zE hj);rw[hx]at hy;obtain rfl:x=y:=by simpa using hy
    exact kZ hm l0 R hR hL 6 _ _ _ z0 (n0.2 j cs[j] u (zE hj) hu)
def DV (w:World) (R:Bool->Nat->Prop) (c:AV) (v:Value):Prop :=
 DA w R c v \/ ∃ (cs:List AV) (vs:List Value),c = .e7 cs/\v = .tuple vs.toArray/\cs.length=vs.length /\ ∀ (j:Nat) (x:AV) (u:Value),cs[j]? = some x->vs[j]? = some u->DA w R x u
theorem Lj (hm:BD B S w0 m) (l0:Bool) (R:Bool->Nat->Prop) (hR : ∀ l b,b<m.w.heap.size->safe B S m l b->R l b) (hL : ∀ s t g,live m s t->m.ν s t=some g->R l0 g)
  {c c':AV} {v:Value} (h:NW m.own l0 c=some c') (hc:CV B S m c v):DV m.w R c' v:=by
 by_cases ht : ∃ cs,c = .e7 cs
 ·obtain ⟨cs,rfl⟩:=ht
  obtain ⟨vs,rfl,hl,q7⟩:=WT hc;simp only[NW]at h;cases ek:cs.mapM (CB m.own l0) with
  | none=>simp [ek]at h
  | some y8 =>
   simp [ek]at h;subst h;obtain ⟨h1,h2⟩:=MR _ ek;refine Or.inr ⟨y8,vs,rfl,rfl,h1.symm.trans hl,λ j x u hx hu => ?_⟩;have hj:j<cs.length:=by rw[h1];exact (zS hx).1
   obtain ⟨y,hy,z0⟩:=h2 j cs[j] (zE hj);rw[hx]at hy;obtain rfl:x=y:=by simpa using hy
   exact VO hm l0 R hR hL z0 (.ca (q7 j cs[j] u (zE hj) hu))
 ·have h':CB m.own l0 c=some c':=by
   cases c<;>first|exact h|exact absurd ⟨_,rfl⟩ ht
  exact Or.inl (VO hm l0 R hR hL h' hc)
theorem DA.ca {B:Nat} {S:Nat->Prop} {m:M} {c:AV} {v:Value} (h:DA m.w (safe B S m) c v):CA B S m c v:=by
 rcases h with h|⟨cs,vs,rfl,rfl,hl,hh⟩
 ·exact .one (.rd h)
 ·exact .agg cs vs ⟨hl,λ j x u hx hu => .rd (hh j x u hx hu)⟩
theorem DV.cv {B:Nat} {S:Nat->Prop} {m:M} {c:AV} {v:Value} (h:DV m.w (safe B S m) c v):CV B S m c v:=by
 rcases h with h|⟨cs,vs,rfl,rfl,hl,hh⟩
 ·exact .ca h.ca
 ·exact .e7 cs vs hl λ j x u hx hu=>(hh j x u hx hu).ca
theorem I5 : ∀ {cs:List AV},CG cs -> ∀ (j:Nat) (c:AV),cs[j]? = some c->AZ c
 | [],_,j,c,h=>by simp at h
 | x::r,hc,j,c,h=>by
  unfold CG at hc;cases j with
  | zero=>simp at h;subst h;exact hc.1
  | succ j=>exact I5 hc.2 j c (by simpa using h)
theorem TW : ∀ {cs:List (List AV)},FB cs -> ∀ (j:Nat) (c:List AV),cs[j]? = some c->CG c
 | [],_,j,c,h=>by simp at h
 | x::r,hc,j,c,h=>by
  unfold FB at hc;cases j with
  | zero=>simp at h;subst h;exact hc.1
  | succ j=>exact TW hc.2 j c (by simpa using h)
theorem Rd.clean {w:World} {R R':Bool->Nat->Prop} (hR : ∀ b,b<w.heap.size->R false b->R' false b) {c:AV} {v:Value} (h:Rd w R c v) (hc:AZ c):Rd w R' c v:=by
 induction h with
 | int k n=>exact .int k n
 | bool b=>exact .bool b
 | str s=>exact .str s
 | fk=>exact .fk
 | dd l a cap=>exact .dd l a cap
 | emp b a cap h=>exact .emp b a cap h
 | sl l es b o a4 cap u k7 hp h1 v3 hz n0 hr ih =>
  unfold AZ at hc;obtain ⟨rfl,hc⟩:=hc;obtain ⟨e,c,he,ct⟩:=R1 k7 hp hz;have hb:b<w.heap.size:=OD (n0 0 e he 0 c ct);exact .sl false es b o a4 cap u k7 hp (hR b hb h1) v3 hz n0 λ i e he j c hj=>ih i e he j c hj (I5 (TW hc i e he) j c hj)
theorem DA.clean {w:World} {R R':Bool->Nat->Prop} (hR : ∀ b,b<w.heap.size->R false b->R' false b) {c:AV} {v:Value} (h:DA w R c v) (hc:AZ c):DA w R' c v:=by
 rcases h with h|⟨cs,vs,rfl,rfl,hl,hh⟩
 ·exact Or.inl (h.clean hR hc)
 ·unfold AZ at hc
  exact Or.inr ⟨cs,vs,rfl,rfl,hl,λ j x u hx hu=>(hh j x u hx hu).clean hR (I5 hc j x hx)⟩
theorem DV.clean {w:World} {R R':Bool->Nat->Prop} (hR : ∀ b,b<w.heap.size->R false b->R' false b) {c:AV} {v:Value} (h:DV w R c v) (hc:AZ c):DV w R' c v:=by
 rcases h with h|⟨cs,vs,rfl,rfl,hl,hh⟩
 ·exact Or.inl (h.clean hR hc)
 ·unfold AZ at hc
  exact Or.inr ⟨cs,vs,rfl,rfl,hl,λ j x u hx hu=>(hh j x u hx hu).clean hR (I5 hc j x hx)⟩
theorem WS {B:Nat} {S:Nat->Prop} {m:M} {c:AV} {v:Value} (h:CV B S m c v) (hc:AZ c):DV m.w (safe B S m) c v:=by
 have one : ∀ {c:AV} {v:Value},CC B S m c v->AZ c->Rd m.w (safe B S m) c v:=λ h hc=>by
  cases h with
  | rd h=>exact h
  | _=>unfold AZ at hc;exact hc.elim
 have ca : ∀ {c:AV} {v:Value},CA B S m c v->AZ c->DA m.w (safe B S m) c v:=λ h hc=>by
  cases h with
  | one h=>exact Or.inl (one h hc)
  | fn=>unfold AZ at hc;exact hc.elim
  | mb=>unfold AZ at hc;exact hc.elim
  | agg cs vs h =>
   unfold AZ at hc;exact Or.inr ⟨cs,vs,rfl,rfl,h.1,λ j x u hx hu=>one (h.2 j x u hx hu) (I5 hc j x hx)⟩
 cases h with
 | any v=>unfold AZ at hc;exact hc.elim
 | ca h=>exact Or.inl (ca h hc)
 | e7 as vs hl h =>
  unfold AZ at hc;exact Or.inr ⟨as,vs,rfl,rfl,hl,λ j x u hx hu=>ca (h j x u hx hu) (I5 hc j x hx)⟩
theorem VF {f:Nat} {xs:Array Operand} {ts:Array TypeId} (j5:o.op = .call ⟨.value (.func f),xs,ts⟩) {w:World} (h:(callFunc f (xs.map a.eval)).run P w = .ok (.enter f (xs.map a.eval)) w):(execOp a.eval o).run P w = .ok (.enter f (xs.map a.eval)) w:=by
 simp [execOp,j5,resolve,Deferred.ofValue,Act.eval,invoke];exact h
theorem dH {C:Cl} (hC:FS P num C) (hm:BD B S w0 m) {f:Nat} {us:List Value} {as:List AV} (hl:us.length=as.length) (hx : ∀ (j:Nat) (v:Value) (c:AV),us[j]? = some v->as[j]? = some c->CV B S m c v) (hex : ∀ w:World,(callFunc (num f) us.toArray).run P w = .ok (.enter (num f) us.toArray) w->(execOp a.eval o).run P w = .ok (.enter (num f) us.toArray) w) {vs:List AV} {r:AV} (hv:as.mapM (CB m.own true)=some vs) (hr:C.pure f vs=some r):B8 B S w0 P o a m (.val r):=by
 obtain ⟨da,eo⟩:=MR _ hv;have ei : ∀ (j:Nat) (c:AV) (v:Value),vs[j]? = some c->us[j]? = some v->CA m.w.heap.size (safe B S m false) ⟨λ_ _=>none,AE.emp,m.w⟩ c v:=by
  intro j c v hc lu;have z9:j<as.length:=by rw[<-hl];exact (zS lu).1
  obtain ⟨y,hy,z0⟩:=eo j as[j] (zE z9);rw[hc]at hy;obtain rfl:c=y:=by simpa using hy
  have o5:=hx j v as[j] lu (zE z9);have nr:=VO hm true (safe m.w.heap.size (safe B S m false) ⟨λ_ _=>none,AE.emp,m.w⟩) (λ l b hb pj=>by
   cases l with
   | false=>exact .inl ⟨pj,hb⟩
   | true=>exact .inr (.inr ⟨rfl,hb⟩)) (λ s t g du hg=>by
   obtain ⟨_,arr,e,hh⟩:=hm.ge du hg;exact .inr (.inr ⟨rfl,(Array.getElem?_eq_some_iff.1 hh).1⟩)) z0 o5
  exact DA.ca (m:=⟨λ_ _=>none,AE.emp,m.w⟩) nr
 have au:=hC.pure f vs r hr (safe B S m false) m.w us (by rw[<-da];exact hl.symm) ei;intro K Q hK;unfold Oper.wp;rw[hex _ (hC.ma f vs r hr _ _)];refine Calls.mono au λ e w' ⟨u,cw,cr,o5,n0⟩ => ?_
 subst cw;obtain ⟨fp,bj⟩:=grow hm cr;refine hK u ⟨m.ν,m.own,w'⟩ rfl fp bj ?_;refine DV.cv (m:=⟨m.ν,m.own,w'⟩) ((WS o5 n0).clean (λ b hb pj => ?_) n0);rcases pj with ⟨h1,h2⟩|⟨h1,_⟩|⟨h1,_⟩
 ·exact bj.rn false b h2 h1
 ·refine .inr (.inl ⟨Nat.le_trans hm.size h1,λ s t du hg => ?_⟩)
  obtain ⟨b',j4⟩:=Option.isSome_iff_exists.1 du;obtain ⟨_,arr,e,hh⟩:=hm.ge ⟨b',j4⟩ hg;have:=(Array.getElem?_eq_some_iff.1 hh).1
  omega
 ·cases h1
theorem dG {C:Cl} (hC:FS P num C) (hm:BD B S w0 m) (hs:B3 B S m ρ a.eval) {f:Nat} {xs:Array Operand} {k9:List AM} (he:DC xs.toList k9=true) (hex : ∀ w:World,(callFunc (num f) (xs.map a.eval)).run P w = .ok (.enter (num f) (xs.map a.eval)) w->(execOp a.eval o).run P w = .ok (.enter (num f) (xs.map a.eval)) w) {vs:List AV} {r:AV} (hv:(k9.map ρ).mapM (CB m.own true)=some vs) (hr:C.pure f vs=some r):B8 B S w0 P o a m (.val r):=by
 obtain ⟨hl,hx⟩:=OP hs he;have bk:(xs.map a.eval)=(xs.toList.map a.eval).toArray:=by cases xs;simp
 rw[bk]at hex;refine dH hC hm (us:=xs.toList.map a.eval) (as:=k9.map ρ) (by simp [hl]) (λ j v c h1 h2 => ?_) hex hv hr;rw[List.getElem?_map]at h1 h2;cases ew:xs.toList[j]? with
 | none=>simp [ew]at h1
 | some x =>
  cases ic:k9[j]? with
  | none=>simp [ic]at h2
  | some y =>
   simp only[ew,ic,Option.map_some,Option.some.injEq]at h1 h2;subst h1 h2;exact hx j x y ew ic
theorem sM {C:Cl} (hC:FS P num C) (hm:BD B S w0 m) (hs:B3 B S m ρ a.eval) {f:Nat} {k9:List AM} (h:A6 P num o.op (.call f k9)=true) {vs:List AV} {r:AV} (hv:(k9.map ρ).mapM (CB m.own true)=some vs) (hr:C.pure f vs=some r):B8 B S w0 P o a m (.val r):=by
 obtain ⟨xs,ts,j5,he⟩:=X9 h;exact dG hC hm hs he (λ w h=>VF j5 h) hv hr
theorem W5 {C:Cl} (hC:FS P num C) (hm:BD B S w0 m) (hs:B3 B S m ρ a.eval) {f:Nat} {k9:List AM} (h:A6 P num o.op (.c4 f k9)=true) {r:AV} {j7:AE} (hr:C.y6 f (k9.map ρ) m.own=some (r,j7)):B8 B S w0 P o a m (.aj r j7):=by
 obtain ⟨xs,ts,j5,he⟩:=yK h;obtain ⟨hl,hx⟩:=OP hs he;have bk:(xs.map a.eval)=(xs.toList.map a.eval).toArray:=by cases xs;simp
 have au:=hC.y6 f (k9.map ρ) m.own r j7 hr B S w0 m (xs.toList.map a.eval) rfl hm (by simp [hl]) (λ j c v hc hv=>by
  rw[List.getElem?_map]at hc hv;cases ew:xs.toList[j]? with
  | none=>simp [ew]at hv
  | some x =>
   cases ic:k9[j]? with
   | none=>simp [ic]at hc
   | some y =>
    simp [ew]at hv;simp [ic]at hc;subst hv hc;exact hx j x y ew ic)
 intro K Q hK;unfold Oper.wp;rw[VF j5 (hC.im f _ _ _ hr _ _),bk];refine Calls.mono au λ e w' ⟨u,m',cw,hw,g9,fp,bj,o5⟩ => ?_
 subst cw hw;exact hK u m' g9 fp bj o5
theorem pX (hm:BD B S w0 m) {w':World} (hb:Below m.w.heap.size m.w w') (s:Nat) (b:C6) (gg:Option Nat) (hz : ∀ x∈b.es,x.length=b.a4)
  (hg:match gg with|none=>b.es=[]|some g=>m.w.heap.size<=g /\ ∃ arr e,w'.heap[g]? = some (.cells arr e (0,0)) /\ ∀ i cs,b.es[i]? = some cs -> ∀ j c,cs[j]? = some c -> ∃ u,arr[i*b.a4+j]? = some u/\CC B S ⟨e6 m s gg,m.own.put s ((m.own s).new b),w'⟩ c u) :
  BD B S w0 ⟨e6 m s gg,m.own.put s ((m.own s).new b),w'⟩/\CS B S m ⟨e6 m s gg,m.own.put s ((m.own s).new b),w'⟩:=by
 have hν : ∀ s' t',live m s' t'->e6 m s gg s' t'=m.ν s' t':=λ s' t' hl=>by
  unfold e6;rw[if_neg];rintro ⟨rfl,rfl⟩
  exact UW hm _ hl
 have iu : ∀ g,gg=some g->m.w.heap.size<=g:=λ g e=>by subst e;exact hg.1
 have he:CS B S m ⟨e6 m s gg,m.own.put s ((m.own s).new b),w'⟩:=by
  refine OW hm hb.size (λ k hk _=>hb.block k hk) (λ s' => ?_) (λ s' t' b' ht j4 => ?_) (λ s' t' g hl z7 k6 => ?_)
  ·rw[JA];split
   ·rename_i h;subst h;omega
   ·exact Nat.le_refl _
  ·rw[E7]at j4
   rw[if_neg (by rintro ⟨rfl,rfl⟩;omega)]at j4;refine ⟨b',j4,rfl,hν s' t' ⟨b',j4⟩,λ g ar e' z7 ha=>⟨ar,?_,rfl⟩⟩;exact (hb.block g (Array.getElem?_eq_some_iff.1 ha).1).trans ha
  ·obtain ⟨b',j4⟩:=hl
   rw[E7]at j4;by_cases h:s'=s/\t'=m.own.c9 s
   ·simp only[e6,if_pos h]at z7
    have:=iu g z7
    omega
   ·rw[if_neg h]at j4
    exact ⟨s',t',⟨b',j4⟩,by rw[<-hν s' t' ⟨b',j4⟩];exact z7⟩
 refine ⟨⟨hm.below.trans (hb.mono hm.size),Nat.le_trans hm.size hb.size,λ s' t' ht => ?_,λ s' t' b' j4 => ?_,λ s1 t1 s2 t2 b1 b2 g h1 h2 g1 g2 => ?_⟩,he⟩
 ·rw[JA]at ht
  rw[E7,if_neg]
  ·refine hm.fresh s' t' ?_
   split at ht
   ·rename_i h;subst h;omega
   ·exact ht
  ·rintro ⟨rfl,rfl⟩
   simp at ht;omega
 ·rw[E7]at j4
  by_cases h:s'=s/\t'=m.own.c9 s
  ·rw[if_pos h]at j4
   obtain rfl:b=b':=by simpa using j4
   refine ⟨hz,?_⟩;show match e6 m s gg s' t' with|none=>_|some g=>_
   rw[show e6 m s gg s' t'=gg by simp [e6,h]];cases gg with
   | none=>exact hg
   | some g=>exact ⟨Nat.le_trans hm.size hg.1,hg.2⟩
  ·rw[if_neg h]at j4
   obtain ⟨h1,h2⟩:=hm.c7 s' t' b' j4;refine ⟨h1,?_⟩;show match e6 m s gg s' t' with|none=>_|some g=>_
   rw[hν s' t' ⟨b',j4⟩];cases hv:m.ν s' t' with
   | none=>rw[hv]at h2;exact h2
   | some g =>
    rw[hv]at h2;obtain ⟨h3,ar,e',h4,h5⟩:=h2;refine ⟨h3,ar,e',(hb.block g (Array.getElem?_eq_some_iff.1 h4).1).trans h4,λ i cs hi j c hj => ?_⟩;obtain ⟨u,hu,q7⟩:=h5 i cs hi j c hj;exact ⟨u,hu,he.cc q7⟩
 ·rw[E7]at h1 h2
  have lt : ∀ s' t' b',m.own.get s' t'=some b'->e6 m s gg s' t'=some g->g<m.w.heap.size:=λ s' t' b' j4 z7=>by
   rw[hν s' t' ⟨b',j4⟩]at z7;obtain ⟨_,ar,e',h4⟩:=hm.ge ⟨b',j4⟩ z7;exact (Array.getElem?_eq_some_iff.1 h4).1
  have at_ : ∀ s' t',s'=s/\t'=m.own.c9 s->e6 m s gg s' t'=some g->m.w.heap.size<=g:=λ s' t' h z7=>by
   simp only[e6,if_pos h]at z7;exact iu g z7
  by_cases p1:s1=s/\t1=m.own.c9 s<;>by_cases p2:s2=s/\t2=m.own.c9 s
  ·exact ⟨p1.1.trans p2.1.symm,p1.2.trans p2.2.symm⟩
  ·rw[if_neg p2]at h2
   have:=lt s2 t2 b2 h2 g2
   have:=at_ s1 t1 p1 g1
   omega
  ·rw[if_neg p1]at h1
   have:=lt s1 t1 b1 h1 g1
   have:=at_ s2 t2 p2 g2
   omega
  ·rw[if_neg p1]at h1
   rw[if_neg p2]at h2;exact hm.inj s1 t1 s2 t2 b1 b2 g h1 h2 (by rw[<-hν s1 t1 ⟨b1,h1⟩];exact g1) (by rw[<-hν s2 t2 ⟨b2,h2⟩];exact g2)
theorem sQ {C:Cl} (hC:FS P num C) (hm:BD B S w0 m) (hs:B3 B S m ρ a.eval) {s f:Nat} {k9:List AM} (h:A6 P num o.op (.n6 s f k9)=true) {vs:List AV} (hv:(k9.map ρ).mapM (MB m.own true)=some vs) {z:Nat} {es:List (List AV)} (hr:LX (C.y6 f vs AE.emp)=some (z,es)) :
  B8 B S w0 P o a m (.new s ⟨z,es⟩ (λ t => .row s t z 0 es.length)):=by
 obtain ⟨xs,ts,j5,he⟩:=X9 (yM h);obtain ⟨s0,t0,o',b0,Gf,l6,rfl,n0⟩:=pW hr;obtain ⟨hl,hx⟩:=OP hs he;obtain ⟨da,eo⟩:=MR _ hv;have bk:(xs.map a.eval)=(xs.toList.map a.eval).toArray:=by cases xs;simp
 have ei : ∀ (j:Nat) (c:AV) (v:Value),vs[j]? = some c->(xs.toList.map a.eval)[j]? = some v->CV m.w.heap.size (safe B S m false) ⟨λ_ _=>none,AE.emp,m.w⟩ c v:=by
  intro j c v hc lu;rw[List.getElem?_map]at lu;cases ew:xs.toList[j]? with
  | none=>simp [ew]at lu
  | some x =>
   simp [ew]at lu;subst lu;have z9:j<k9.length:=by rw[<-hl];exact (zS ew).1
   obtain ⟨y,hy,z0⟩:=eo j (ρ k9[j]) (by rw[List.getElem?_map,zE z9];rfl);rw[hc]at hy;obtain rfl:c=y:=by simpa using hy
   have o5:=hx j x k9[j] ew (zE z9);have hN:(ρ k9[j] = .nil/\c = .nil)\/CB m.own true (ρ k9[j])=some c:=by
    cases e:ρ k9[j] with
    | nil=>rw[e]at z0;exact .inl ⟨rfl,(Option.some.inj z0).symm⟩
    | _=>rw[e]at z0;exact .inr z0
   rcases hN with ⟨e1,rfl⟩|z0
   ·rw[e1]at o5
    rw[P0 o5];exact .ca (.one .nil)
   have nr:=VO hm true (safe m.w.heap.size (safe B S m false) ⟨λ_ _=>none,AE.emp,m.w⟩) (λ l b hb pj=>by
    cases l with
    | false=>exact .inl ⟨pj,hb⟩
    | true=>exact .inr (.inr ⟨rfl,hb⟩)) (λ s t g du hg=>by
    obtain ⟨_,arr,e,hh⟩:=hm.ge du hg;exact .inr (.inr ⟨rfl,(Array.getElem?_eq_some_iff.1 hh).1⟩)) z0 o5
   exact .ca (DA.ca (m:=⟨λ_ _=>none,AE.emp,m.w⟩) nr)
 have Ol:BD m.w.heap.size (safe B S m false) m.w ⟨λ_ _=>none,AE.emp,m.w⟩:=⟨Below.refl _ _,Nat.le_refl _,λ_ _ _=>rfl,(λ s t b h=>by cases h),(λ_ _ _ _ _ _ _ h=>by cases h)⟩;have au:=hC.y6 f vs AE.emp _ o' Gf m.w.heap.size (safe B S m false) m.w ⟨λ_ _=>none,AE.emp,m.w⟩ (xs.toList.map a.eval) rfl Ol (by rw[<-da];simp [hl]) ei;intro K Q hK;unfold Oper.wp;rw[VF j5 (hC.im f _ _ _ Gf _ _),bk];refine Calls.mono au λ e w' ⟨u,m',cw,hw,g9,fp,Ga,o5⟩ => ?_
 subst cw hw;have cr:Below m.w.heap.size m.w m'.w:=fp.below;rw[<-g9]at l6;obtain ⟨hz,fz⟩:=fp.c7 s0 t0 b0 l6;obtain ⟨ad,cap,rfl,ht,ag,dh,ha,hb⟩:=P1 o5;obtain ⟨db,ae⟩:=hb b0 l6;subst db;have hold : ∀ s t g,live m s t->m.ν s t=some g->g<m.w.heap.size:=λ s t g du hg=>by
  obtain ⟨_,arr,e,hh⟩:=hm.ge du hg;exact (Array.getElem?_eq_some_iff.1 hh).1
 have tp : ∀ s' t' g,live ⟨e6 m s (m'.ν s0 t0),m.own.put s ((m.own s).new ⟨b0.a4,b0.es⟩),m'.w⟩ s' t'->e6 m s (m'.ν s0 t0) s' t'=some g->g<m.w.heap.size\/m'.ν s0 t0=some g:=λ s' t' g du hg=>by
  obtain ⟨b',j4⟩:=du;rw[E7]at j4;by_cases g8:s'=s/\t'=m.own.c9 s
  ·simp only[e6,if_pos g8]at hg
   exact Or.inr hg
  ·rw[if_neg g8]at j4
   simp only[e6,if_neg g8]at hg;exact Or.inl (hold s' t' g ⟨b',j4⟩ hg)
 have hR : ∀ b,b<m'.w.heap.size->safe m.w.heap.size (safe B S m false) m' false b->safe B S ⟨e6 m s (m'.ν s0 t0),m.own.put s ((m.own s).new ⟨b0.a4,b0.es⟩),m'.w⟩ false b:=λ b Qz pj=>by
  rcases pj with ⟨h1,h2⟩|⟨h1,h2⟩|⟨h1,_⟩
  ·rcases h1 with h1|⟨h1,h3⟩|⟨h1,_⟩
   ·exact .inl h1
   ·refine .inr (.inl ⟨h1,λ s' t' du hg => ?_⟩)
    obtain ⟨b',j4⟩:=Option.isSome_iff_exists.1 du;have n8:=j4;rw[E7]at n8;by_cases g8:s'=s/\t'=m.own.c9 s
    ·simp only[e6,if_pos g8]at hg
     rw[hg]at fz;have:=fz.1
     omega
    ·rw[if_neg g8]at n8
     simp only[e6,if_neg g8]at hg;exact h3 s' t' (by rw[n8];rfl) hg
   ·cases h1
  ·refine .inr (.inl ⟨Nat.le_trans hm.size h1,λ s' t' du hg => ?_⟩)
   rcases tp s' t' b (Option.isSome_iff_exists.1 du) hg with h3|h3
   ·omega
   ·exact h2 s0 t0 (by rw[l6];rfl) h3
  ·cases h1
 obtain ⟨kg,bj⟩:=pX hm cr s ⟨b0.a4,b0.es⟩ (m'.ν s0 t0) hz (by
  cases hν:m'.ν s0 t0 with
  | none=>rw[hν]at fz;exact fz
  | some g =>
   rw[hν]at fz hR;obtain ⟨h1,arr,e,h2,h3⟩:=fz;refine ⟨h1,arr,e,h2,λ i cs hi j c hj => ?_⟩;obtain ⟨u,hu,q7⟩:=h3 i cs hi j c hj;refine ⟨u,hu,.rd ?_⟩;have tc:=I5 (TW n0 i cs hi) j c hj;have dz:Rd m'.w (safe m.w.heap.size (safe B S m false) m') c u:=by
    cases q7 with
    | rd h=>exact h
    | _=>unfold AZ at tc;exact tc.elim
   exact dz.clean hR tc)
 refine hK _ ⟨e6 m s (m'.ν s0 t0),m.own.put s ((m.own s).new ⟨b0.a4,b0.es⟩),m'.w⟩ rfl kg bj (.ca (.one (.row s (m.own.c9 s) b0.a4 0 b0.es.length ad cap (by show m.own.c9 s<AE.c9 (m.own.put s _) s;rw[JA,if_pos rfl];omega) ag dh ha λ b1 sv => ?_)));have xh:(m.own.put s ((m.own s).new ⟨b0.a4,b0.es⟩)).get s (m.own.c9 s)=some b1:=sv;rw[E7,if_pos ⟨rfl,rfl⟩]at xh;obtain rfl:=Option.some.inj xh;refine ⟨rfl,?_⟩;rcases ae with h0|⟨g,arr,e,hg,fe,hh,hle⟩
 ·exact .inl h0
 ·exact .inr ⟨g,arr,e,by simp [e6,hg],fe,hh,hle⟩
theorem cS {p:Bool} {f g:Nat} {cs:List AV} {v:Value} (h:CV B S m (.fn p f g cs) v) (hp:p=false\/cs=[]) : ∃ vs:List Value,v = .func (.func g) #[] vs.toArray/\CL B S m cs vs:=by
 cases h with
 | ca h=>cases h with
  | one h=>cases h with
   | rd h=>cases h
  | fn p f g cs vs hp h=>exact ⟨vs,rfl,h⟩
  | mb f g cs vs k7 h =>
   rcases hp with hp|hp
   ·cases hp
   ·exact absurd hp k7
theorem rJ {f g:Nat} {cs:List AV} {v:Value} (h:CV B S m (.fn true f g cs) v) (k7:cs≠[]) : ∃ vs:List Value,v = .func (.func g) #[.agg vs.toArray] #[]/\CL B S m cs vs:=by
 cases h with
 | ca h=>cases h with
  | one h=>cases h with
   | rd h=>cases h
  | fn p f g cs vs hp h=>exact absurd (hp rfl) k7
  | mb f g cs vs k7 h=>exact ⟨vs,rfl,h⟩
theorem kF {f:Nat} {x:Operand} {xs:Array Operand} {ts:Array TypeId} {vs:Array Value} (j5:o.op = .call ⟨.value x,xs,ts⟩) (hx:a.eval x = .func (.func f) #[] vs) {w:World} (h:(callFunc f (xs.map a.eval++vs)).run P w = .ok (.enter f (xs.map a.eval++vs)) w):(execOp a.eval o).run P w = .ok (.enter f (xs.map a.eval++vs)) w:=by
 simp [execOp,j5,resolve,Deferred.ofValue,hx,invoke];exact h
theorem sR {C:Cl} (hC:FS P num C) (hm:BD B S w0 m) (hs:B3 B S m ρ a.eval) {x':AM} {k9:List AM} (h:A6 P num o.op (.l8 x' k9)=true) {f:Nat} {cs:List AV} (hf:ρ x' = .fn false f (num f) cs) {r:AV} {j7:AE} (hr:C.y6 f (k9.map ρ++cs) m.own=some (r,j7)):B8 B S w0 P o a m (.aj r j7):=by
 obtain ⟨x,xs,ts,j5,fj,he⟩:=YA h;obtain ⟨hl,hx⟩:=OP hs he;obtain ⟨vs,hv,n0⟩:=cS (hf ▸ hs x x' fj) (.inl rfl);have bk:(xs.map a.eval++vs.toArray)=(xs.toList.map a.eval++vs).toArray:=by cases xs;simp
 have au:=hC.y6 f (k9.map ρ++cs) m.own r j7 hr B S w0 m (xs.toList.map a.eval++vs) rfl hm (by simp [hl,n0.1]) (λ j c v hc hv=>by
  by_cases hj:j<k9.length
  ·rw[List.getElem?_append_left (by simpa using hj),List.getElem?_map]at hc
   rw[List.getElem?_append_left (by simpa [hl] using hj),List.getElem?_map]at hv;have Gi:j<xs.toList.length:=by rw[hl];exact hj
   rw[zE hj]at hc;rw[zE Gi]at hv;simp only[Option.map_some,Option.some.injEq]at hc hv;subst hc hv;exact hx j _ _ (zE Gi) (zE hj)
  ·rw[List.getElem?_append_right (by simpa using hj),List.length_map]at hc
   rw[List.getElem?_append_right (by simpa [hl] using hj),List.length_map,hl]at hv;exact .ca (.one (n0.2 _ c v hc hv)))
 intro K Q hK;unfold Oper.wp;rw[kF j5 hv (hC.im f _ _ _ hr _ _),bk];refine Calls.mono au λ e w' ⟨u,m',cw,hw,g9,fp,bj,o5⟩ => ?_
 subst cw hw;exact hK u m' g9 fp bj o5
theorem sO {C:Cl} (hC:FS P num C) (hm:BD B S w0 m) (hs:B3 B S m ρ a.eval) {x':AM} {k9:List AM} (h:A6 P num o.op (.l8 x' k9)=true) {f:Nat} (hf:ρ x' = .fn true f (num f) []) {vs:List AV} {r:AV} (hv:(k9.map ρ).mapM (CB m.own true)=some vs) (hr:C.pure f vs=some r):B8 B S w0 P o a m (.val r):=by
 obtain ⟨x,xs,ts,j5,fj,he⟩:=YA h;obtain ⟨us,hu,n0⟩:=cS (hf ▸ hs x x' fj) (.inr rfl);have Pn:us=[]:=List.eq_nil_of_length_eq_zero (by rw[<-n0.1];rfl);subst Pn;refine dG hC hm hs he (λ w h => ?_) hv hr;have:=kF (P:=P) (w:=w) j5 hu (by simpa using h)
 simpa using this
theorem Jd {f:Nat} {x:Operand} {xs:Array Operand} {ts:Array TypeId} {u:Value} (j5:o.op = .call ⟨.value x,xs,ts⟩) (hx:a.eval x = .func (.func f) #[u] #[]) {w:World} (h:(callFunc f (#[u]++xs.map a.eval)).run P w = .ok (.enter f (#[u]++xs.map a.eval)) w):(execOp a.eval o).run P w = .ok (.enter f (#[u]++xs.map a.eval)) w:=by
 simp [execOp,j5,resolve,Deferred.ofValue,hx,invoke];exact h
theorem sN {C:Cl} (hC:FS P num C) (hm:BD B S w0 m) (hs:B3 B S m ρ a.eval) {x':AM} {k9:List AM} (h:A6 P num o.op (.l8 x' k9)=true) {f:Nat} {c:AV} {cs:List AV} (hf:ρ x' = .fn true f (num f) (c::cs)) {vs:List AV} {r:AV} (hv:(AV.agg (c::cs)::k9.map ρ).mapM (CB m.own true)=some vs) (hr:C.pure f vs=some r):B8 B S w0 P o a m (.val r):=by
 obtain ⟨x,xs,ts,j5,fj,he⟩:=YA h;obtain ⟨us,hu,n0⟩:=rJ (hf ▸ hs x x' fj) (by simp);obtain ⟨hl,hx⟩:=OP hs he;have bk:(#[Value.agg us.toArray]++xs.map a.eval)=(Value.agg us.toArray::xs.toList.map a.eval).toArray:=by cases xs;simp
 refine dH hC hm (us:=Value.agg us.toArray::xs.toList.map a.eval) (as:=AV.agg (c::cs)::k9.map ρ) (by simp [hl]) (λ j v c' h1 h2 => ?_) (λ w h=>by
  rw[<-bk]at h ⊢;exact Jd j5 hu h) hv hr
 cases j with
 | zero =>
  simp only[List.getElem?_cons_zero,Option.some.injEq]at h1 h2;subst h1 h2;exact .ca (.agg _ _ n0)
 | succ j =>
  rw[List.getElem?_cons_succ,List.getElem?_map]at h1 h2;cases ew:xs.toList[j]? with
  | none=>simp [ew]at h1
  | some x =>
   cases ic:k9[j]? with
   | none=>simp [ic]at h2
   | some y =>
    simp only[ew,ic,Option.map_some,Option.some.injEq]at h1 h2;subst h1 h2;exact hx j x y ew ic
theorem Rd.Qp {w:World} {R R':Bool->Nat->Prop} (hR : ∀ l b,b<w.heap.size->R l b -> ∀ l',R' l' b) {c:AV} {v:Value} (h:Rd w R c v) (hq:FD c=true):Rd w R' (QX c) v:=by
 cases h with
 | int k n=>exact .int k n
 | bool b=>exact .bool b
 | str s=>simp [FD]at hq
 | fk=>simp [FD]at hq
 | emp=>simp [FD]at hq
 | dd l a cap=>exact .dd false a cap
 | sl l es b o a4 cap u k7 hp h1 v3 hz n0 hr =>
  obtain ⟨e,c,he,ct⟩:=R1 k7 hp hz;have hb:b<w.heap.size:=OD (n0 0 e he 0 c ct);exact .sl false es b o a4 cap u k7 hp (hR l b hb h1 false) v3 hz n0 λ i e he j c hj=>(hr i e he j c hj).mono (λ l b hb h=>hR l b hb h l) (λ_ _ _ _=>rfl)
theorem Rd.qe {w:World} {R R':Bool->Nat->Prop} (hR : ∀ b,b<w.heap.size->R false b->R' true b) {c:AV} {v:Value} (h:Rd w R c v) (hc:AZ c) (hf:Q4 c):Rd w R' (R6 c) v:=by
 cases h with
 | int k n=>exact .int k n
 | bool b=>exact .bool b
 | str s=>exact hf.elim
 | fk=>exact hf.elim
 | emp=>exact hf.elim
 | dd l a cap=>exact .dd true a cap
 | sl l es b o a4 cap u k7 hp h1 v3 hz n0 hr =>
  unfold AZ at hc;obtain ⟨rfl,hc⟩:=hc;obtain ⟨e,c,he,ct⟩:=R1 k7 hp hz;have hb:b<w.heap.size:=OD (n0 0 e he 0 c ct);refine .sl true es b o a4 cap u k7 hp (hR b hb h1) v3 hz n0 λ i e he j c hj => ?_
  have Dm:=hf e (zM he) c (zM hj);have Gr:=hr i e he j c hj;generalize u i j=vv at Gr ⊢;cases Gr<;>first|exact .int _ _|exact .bool _|(simp [jF]at Dm)
theorem YE : ∀ l:List AV,JT l=l.map FX
 | []=>by simp [JT]
 | c::r=>by rw[JT,YE r];rfl
theorem iL : ∀ l:List (List AV),L8 l=l.map λ e=>e.map FX
 | []=>by simp [L8]
 | c::r=>by rw[L8,iL r,YE];rfl
theorem Rd.qf {w:World} {R R':Bool->Nat->Prop} (hR : ∀ b,b<w.heap.size->R false b->R' true b) {c:AV} {v:Value} (h:Rd w R c v):AZ c->Rd w R' (FX c) v:=by
 induction h with
 | int k n=>intro _;exact .int k n
 | bool b=>intro _;exact .bool b
 | str s=>intro _;exact .str s
 | fk=>intro _;exact .fk
 | emp b a cap h=>intro _;exact .emp b a cap h
 | dd l a cap=>intro _;exact .dd true a cap
 | sl l es b o a4 cap u k7 hp h1 v3 hz n0 hr ih =>
  intro hc;unfold AZ at hc;obtain ⟨rfl,hc⟩:=hc;obtain ⟨e,c,he,ct⟩:=R1 k7 hp hz;have hb:b<w.heap.size:=OD (n0 0 e he 0 c ct);have qj : ∀ (i:Nat) (e':List AV),(es.map λ e:List AV=>e.map FX)[i]? = some e' -> ∃ e,es[i]? = some e/\e'=e.map FX:=λ i e' h=>by
   rw[List.getElem?_map]at h;cases hi:es[i]? with
   | none=>simp [hi]at h
   | some e=>exact ⟨e,rfl,by simpa [hi] using h.symm⟩
  have xg : ∀ (e:List AV) (j:Nat) (c':AV),(e.map FX)[j]? = some c' -> ∃ c,e[j]? = some c/\c'=FX c:=λ e j c' h=>by
   rw[List.getElem?_map]at h;cases hi:e[j]? with
   | none=>simp [hi]at h
   | some c=>exact ⟨c,rfl,by simpa [hi] using h.symm⟩
  have key:=Rd.sl (w:=w) (R:=R') true (es.map λ e:List AV=>e.map FX) b o a4 cap u (by simpa using k7) hp (hR b hb h1) (by simpa using v3)
   (λ e' cw=>by
    obtain ⟨e,he,rfl⟩:=List.mem_map.1 cw;rw[List.length_map];exact hz e he)
   (λ i e' hi j c' hj=>by
    obtain ⟨e,he,rfl⟩:=qj i e' hi;obtain ⟨c,uz,rfl⟩:=xg e j c' hj;exact n0 i e he j c uz)
   (λ i e' hi j c' hj=>by
    obtain ⟨e,he,rfl⟩:=qj i e' hi;obtain ⟨c,uz,rfl⟩:=xg e j c' hj;exact ih i e he j c uz (I5 (TW hc i e he) j c uz))
  rw[List.length_map]at key;rw[FX,iL];exact key
theorem sP {C:Cl} (hC:FS P num C) (hm:BD B S w0 m) (hs:B3 B S m ρ a.eval) {f:Nat} {k9:List AM} (h:A6 P num o.op (.l7 f k9)=true) (hq:(k9.map ρ).all dq=true) {r:AV} (hr:C.pure f ((k9.map ρ).map oe)=some r) (oz:HW r\/N1 r):B8 B S w0 P o a m (.val (JU r)):=by
 obtain ⟨xs,ts,j5,he⟩:=X9 (yL h);obtain ⟨hl,hx⟩:=OP hs he;have bk:(xs.map a.eval)=(xs.toList.map a.eval).toArray:=by cases xs;simp
 have hR : ∀ l b,b<m.w.heap.size->safe B S m l b -> ∀ l',safe m.w.heap.size (safe B S m true) ⟨λ_ _=>none,AE.emp,m.w⟩ l' b:=λ l b hb h l' => .inl ⟨ZK h,hb⟩
 have hcell : ∀ (c:AV) (v:Value),CC B S m c v->FD c=true->Rd m.w (safe m.w.heap.size (safe B S m true) ⟨λ_ _=>none,AE.emp,m.w⟩) (QX c) v:=λ c v hc hd=>by
  cases hc with
  | rd hr=>exact hr.Qp hR hd
  | nil=>exact .dd false none 0
  | row=>simp [FD]at hd
  | ptr=>simp [FD]at hd
  | n7=>simp [FD]at hd
 have ei : ∀ (j:Nat) (c:AV) (v:Value),((k9.map ρ).map oe)[j]? = some c->(xs.toList.map a.eval)[j]? = some v->CA m.w.heap.size (safe B S m true) ⟨λ_ _=>none,AE.emp,m.w⟩ c v:=by
  intro j c v hc lu;rw[List.getElem?_map,List.getElem?_map]at hc;rw[List.getElem?_map]at lu;cases ew:xs.toList[j]? with
  | none=>simp [ew]at lu
  | some x =>
   cases ic:k9[j]? with
   | none=>simp [ic]at hc
   | some y =>
    simp [ew]at lu;simp [ic]at hc;subst lu hc;have o5:=hx j x y ew ic;have hd:dq (ρ y)=true:=List.all_eq_true.1 hq _ (List.mem_map_of_mem (zM ic));generalize ρ y=cy at o5 hd ⊢;generalize a.eval x=vx at o5 ⊢;cases o5 with
    | any=>simp [dq,FD]at hd
    | e7=>simp [dq,FD]at hd
    | ca ka =>
     cases ka with
     | one xj =>
      have kx:FD cy=true/\oe cy=QX cy:=by
       cases xj with
       | rd hr=>cases hr<;>exact ⟨hd,rfl⟩
       | _=>exact ⟨hd,rfl⟩
      rw[kx.2];exact .one (.rd (hcell _ _ xj kx.1))
     | agg cs vs n0 =>
      refine .agg (cs.map QX) vs ⟨by simpa using n0.1,λ k c' v' o4 dk => ?_⟩;rw[List.getElem?_map]at o4;cases ej:cs[k]? with
      | none=>simp [ej]at o4
      | some c0 =>
       simp [ej]at o4;subst o4;exact .rd (hcell c0 v' (n0.2 k c0 v' ej dk) (List.all_eq_true.1 hd _ (zM ej)))
     | fn=>simp [dq,FD]at hd
     | mb=>simp [dq,FD]at hd
 have au:=hC.pure f _ r hr (safe B S m true) m.w (xs.toList.map a.eval) (by simp [hl]) ei;intro K Q hK;unfold Oper.wp;rw[VF j5 (hC.ma f _ r hr _ _),bk];refine Calls.mono au λ e w' ⟨u,cw,cr,o5,n0⟩ => ?_
 subst cw;obtain ⟨fp,bj⟩:=grow hm cr;refine hK u ⟨m.ν,m.own,w'⟩ rfl fp bj ?_;have cq : ∀ b,b<w'.heap.size->safe m.w.heap.size (safe B S m true) ⟨λ_ _=>none,AE.emp,w'⟩ false b->safe B S ⟨m.ν,m.own,w'⟩ true b:=λ b hb pj=>by
  rcases pj with ⟨h1,h2⟩|⟨h1,_⟩|⟨h1,_⟩
  ·exact bj.rn true b h2 h1
  ·refine .inr (.inl ⟨Nat.le_trans hm.size h1,λ s t du hg => ?_⟩)
   obtain ⟨b',j4⟩:=Option.isSome_iff_exists.1 du;obtain ⟨_,arr,e,hh⟩:=hm.ge ⟨b',j4⟩ hg;have:=(Array.getElem?_eq_some_iff.1 hh).1
   omega
  ·cases h1
 by_cases dt:HW r
 ·rw[YH dt]
  rcases WS o5 n0 with nr|⟨cs,vs,rfl,_⟩
  ·rcases nr with dz|⟨cs,vs,rfl,rfl,da,hh⟩
   ·have e1:px r=R6 r/\Q4 r:=by cases dz<;>exact ⟨rfl,dt⟩
    rw[show BM.valOf (.val (px r)) m.own=px r from rfl,e1.1];exact .ca (.one (.rd (dz.qe cq n0 e1.2)))
   ·unfold AZ at n0
    refine .ca (.agg (cs.map R6) vs ⟨by simpa using da,λ k c' v' o4 dk => ?_⟩);rw[List.getElem?_map]at o4;cases ej:cs[k]? with
    | none=>simp [ej]at o4
    | some c0 =>
     simp [ej]at o4;subst o4;exact .rd ((hh k c0 v' ej dk).qe cq (I5 n0 k c0 ej) (dt c0 (zM ej)))
  ·exact dt.elim
 ·rw[YG dt]
  have hd:=oz.resolve_left dt;have dv : ∀ {r:AV} {v:Value},DA w' (safe m.w.heap.size (safe B S m true) ⟨λ_ _=>none,AE.emp,w'⟩) r v->AZ r->CA B S ⟨m.ν,m.own,w'⟩ (GZ r) v:=λ{r v} nr n0=>by
   rcases nr with dz|⟨cs,vs,rfl,rfl,da,hh⟩
   ·have e1:GZ r=FX r:=by cases dz<;>rfl
    rw[e1];exact .one (.rd (dz.qf cq n0))
   ·unfold AZ at n0
    rw[show GZ (.agg cs) = .agg (JT cs) from rfl,YE];refine .agg (cs.map FX) vs ⟨by simpa using da,λ k c' v' o4 dk => ?_⟩;rw[List.getElem?_map]at o4;cases ej:cs[k]? with
    | none=>simp [ej]at o4
    | some c0 =>
     simp [ej]at o4;subst o4;exact .rd ((hh k c0 v' ej dk).qf cq (I5 n0 k c0 ej))
  rcases WS o5 n0 with nr|⟨cs,vs,rfl,rfl,da,hh⟩
  ·have e1:IQ r=GZ r:=by
    rcases nr with dz|⟨cs,vs,rfl,_⟩
    ·cases dz<;>rfl
    ·rfl
   rw[show BM.valOf (.val (IQ r)) m.own=IQ r from rfl,e1];exact .ca (dv nr n0)
  ·unfold AZ at n0
   rw[show BM.valOf (.val (IQ (.e7 cs))) m.own = .e7 (cs.map GZ) from rfl];refine .e7 (cs.map GZ) vs (by simpa using da) λ k c' v' o4 dk => ?_
   rw[List.getElem?_map]at o4;cases ej:cs[k]? with
   | none=>simp [ej]at o4
   | some c0 =>
    simp [ej]at o4;subst o4;exact dv (hh k c0 v' ej dk) (I5 n0 k c0 ej)
end
end Go.c8

namespace Go.c8
open Go.RowKit
section
variable {B:Nat} {S:Nat->Prop} {w0:World} {m:M}
variable {P:Program} {num:Nat->Nat} {o:Oper} {a:Act} {ρ:AM->AV} {C:Cl} {a7:List Nat}
theorem tH (hm:BD B S w0 m) (hs:B3 B S m ρ a.eval) {mx:Bool} {k9:List AM} (h:A6 P num o.op (.mm mx k9)=true) {v r:AV} {l:List AV} (hx:k9.map ρ=v::l) (hv:IU mx v l=some r):B8 B S w0 P o a m (.val r):=by
 by_cases hi : ∃ k n,v = .int k n
 ·exact tG hm hs h hx hv hi
 ·cases l with
  | cons u q =>
   simp only[IU]at hv;exfalso;cases v<;>first|(exact hi ⟨_,_,rfl⟩)|(simp [MT]at hv)
  | nil =>
   simp only[IU,Option.some.injEq]at hv;subst hv;obtain ⟨xs,ts,j5,he⟩:=gY h;cases k9 with
   | nil=>simp at hx
   | cons y yr =>
    simp only[List.map_cons,List.cons.injEq,List.map_eq_nil_iff]at hx;obtain ⟨rfl,rfl⟩:=hx;obtain ⟨xl⟩:=xs;cases xl with
    | nil=>simp [DC]at he
    | cons x xr =>
     simp only[DC,Bool.and_eq_true]at he;cases xr with
     | cons=>simp [DC]at he
     | nil =>
      refine DJ hm (u:=a.eval x) ?_ (hs x y he.1);cases mx<;>simp [execOp,j5,resolve,invoke,builtin,Builtin.min_,Builtin.max_]
theorem gI (o:AE) (l:List Nat) (s t:Nat) (b:C6) (h:(o.j9 l).get s t=some b):o.get s t=some b:=by
 induction l with
 | nil=>exact h
 | cons x r ih =>
  unfold AE.get AE.j9 at h;by_cases hs:s=x
  ·simp [hs]at h
  ·simp only[if_neg hs]at h
   exact ih h
theorem zF {o:AE} {l:List Nat} {s t i j n:Nat} {cs:List AV} (h:(o.j9 l).ja s t i j n=some cs):o.ja s t i j n=some cs:=by
 unfold AE.ja at *;cases hg:(o.j9 l).get s t with
 | none=>simp [hg]at h
 | some b =>
  rw[gI o l s t b hg];simpa [hg] using h
theorem uG {o:AE} {l:List Nat} {v:AV} {es:List (List AV)} (h:DS (o.j9 l) v=some es):DS o v=some es:=by
 cases v with
 | w6 v=>cases v<;>exact h
 | row s t z off len =>
  simp only[DS]at h ⊢;cases hg:(o.j9 l).get s t with
  | none=>simp [hg]at h
  | some b =>
   rw[gI o l s t b hg];simpa [hg] using h
 | _=>exact h
theorem QE {α β:Type} {f g:α->Option β} (Gb : ∀ x y,f x=some y->g x=some y) : ∀ {l:List α} {l':List β},l.mapM f=some l'->l.mapM g=some l'
 | [],l',h=>by simpa using h
 | x::r,l',h=>by
  simp only[List.mapM_cons,Option.bind_eq_bind,Option.pure_def]at h ⊢;cases hx:f x with
  | none=>simp [hx]at h
  | some y =>
   cases hr:r.mapM f with
   | none=>simp [hx,hr]at h
   | some r' =>
    simp [hx,hr]at h;simp [Gb x y hx,QE Gb hr,h]
theorem ZT (o:AE) (l:List Nat) (b:Bool) : ∀ (d:Nat) (c c':AV),snap (o.j9 l) b d c=some c'->snap o b d c=some c'
 | 0,c,c',h=>by cases c<;>simp_all [snap]
 | d+1,c,c',h=>by
  cases c<;>first|(simp_all [snap];done)|skip
  rename_i s t z off len;simp only[snap]at h ⊢;cases he:DS (o.j9 l) (.row s t z off len) with
  | none=>simp [he]at h
  | some es =>
   simp only[he]at h;rw[uG he];simp only[Option.map_eq_some_iff]at h ⊢;obtain ⟨es',h1,h2⟩:=h;exact ⟨es',QE (λ x y hx=>QE (ZT o l b d) hx) h1,h2⟩
theorem kY (o:AE) (l:List Nat) (b:Bool) (c c':AV) (h:CB (o.j9 l) b c=some c'):CB o b c=some c':=by
 cases c<;>first|exact ZT o l b 6 _ _ h|skip
 simp only[CB,Option.map_eq_some_iff]at h ⊢;obtain ⟨cs,h1,h2⟩:=h;exact ⟨cs,QE (ZT o l b 6) h1,h2⟩
theorem Li (o:AE) (l:List Nat) (b:Bool) (c c':AV) (h:MB (o.j9 l) b c=some c'):MB o b c=some c':=by
 rcases Classical.em (c = .nil) with rfl|hc
 ·exact h
 ·have e : ∀ o:AE,MB o b c=CB o b c:=λ o=>by cases c<;>first|rfl|exact (hc rfl).elim
  rw[e]at h ⊢;exact kY o l b _ _ h
theorem zU {o:AE} {l:List Nat} {b:Bool} {xs vs:List AV} (h:xs.mapM (MB (o.j9 l) b)=some vs):xs.mapM (MB o b)=some vs:=QE (Li o l b) h
theorem zP {o:AE} {l:List Nat} {b:Bool} {xs vs:List AV} (h:xs.mapM (CB (o.j9 l) b)=some vs):xs.mapM (CB o b)=some vs:=QE (kY o l b) h
theorem Lt {own j7:AE} {s t i j:Nat} {vs:List AV} (h:own.gp s t i j vs=some j7):own.put s (j7 s)=j7:=by
 unfold AE.gp at h;cases hg:own.get s t with
 | none=>simp [hg]at h
 | some b =>
  simp only[hg]at h;cases he:b.es[i]? with
  | none=>simp [he]at h
  | some cs =>
   simp only[he]at h;split at h
   ·obtain rfl:=Option.some.inj h
    rw[AE.g7]
   ·cases h
theorem uE (hC:FS P num C) (hm:BD B S w0 m) (hs:B3 B S m ρ a.eval) {uk:C2} (e8:A6 P num o.op uk=true) {E:BM} (h:c5 C a7 ρ m.own uk=some E):B8 B S w0 P o a m E:=by
 cases uk with
 | m8 x=>simp only[c5,Option.some.injEq]at h;subst h;exact tJ hm hs e8
 | u9 s z=>simp only[c5,Option.some.injEq]at h;subst h;exact tP hm e8
 | pick c x y =>
  simp only[c5]at h;split at h
  ·rename_i hc;simp only[Option.some.injEq]at h;subst h;exact dF hm hs e8 hc
  ·rename_i hc;simp only[Option.some.injEq]at h;subst h;exact dF hm hs e8 hc
  ·cases h
 | bin f x y =>
  simp only[c5]at h;split at h
  ·rename_i k n k' n' hx hy
   simp only[Option.map_eq_some_iff]at h;obtain ⟨v,hv,rfl⟩:=h;exact sI hm hs e8 hx hy hv
  ·cases h
 | beq ne x y =>
  simp only[c5]at h;split at h
  ·rename_i b b' hx hy
   simp only[Option.some.injEq]at h;subst h;exact sH hm hs e8 hx hy
  ·cases h
 | un f x =>
  simp only[c5,Option.map_eq_some_iff]at h;obtain ⟨v,hv,rfl⟩:=h;exact tO hm hs e8 hv
 | conv k x =>
  simp only[c5]at h;split at h
  ·rename_i k' n hx
   simp only[Option.some.injEq]at h;subst h;exact sS hm hs e8 hx
  ·cases h
 | box s x =>
  simp only[c5]at h;split at h
  ·rename_i cs ek
   simp only[Option.some.injEq]at h;subst h;exact sJ hm hs e8 ek
  ·cases h
 | alloc s z=>simp only[c5,Option.some.injEq]at h;subst h;exact sE hm e8
 | build z ps =>
  simp only[c5,Option.map_eq_some_iff]at h;obtain ⟨cs,ek,rfl⟩:=h;exact sL hm hs e8 ek
 | b9 s a4 ps =>
  simp only[c5]at h;split at h
  ·rename_i es cz
   split at h
   ·rename_i hz
    simp only[Option.some.injEq]at h;subst h;exact sK hm hs e8 cz hz
   ·cases h
  ·cases h
 | m4 x off =>
  simp only[c5]at h;split at h
  ·rename_i s t i j hx
   simp only[Option.some.injEq]at h;subst h;exact sV hm hs e8 hx
  ·rename_i cs hx
   simp only[Option.some.injEq]at h;subst h;exact sU hm hs e8 hx
  ·cases h
 | gu x off n agg =>
  simp only[c5]at h;split at h
  ·rename_i cs hx
   split at h
   ·rename_i ds hp
    simp only[Option.map_eq_some_iff]at h;obtain ⟨v,hv,rfl⟩:=h;exact sW hm hs e8 hx hp hv
   ·cases h
  ·cases h
 | o6 arr a4 x i =>
  simp only[c5]at h;split at h
  ·rename_i k n hi
   split at h
   ·rename_i len s t i' j hx
    split at h
    ·rename_i hn
     simp only[Option.some.injEq]at h;subst h;exact sX hm hs e8 hi hx hn.1 hn.2
    ·cases h
   ·rename_i len cs hx
    split at h
    ·rename_i hn
     simp only[Option.some.injEq]at h;subst h;exact sY hm hs e8 hi hx hn.1 hn.2
    ·cases h
   ·rename_i s t z off len hx
    split at h
    ·rename_i hn
     simp only[Option.some.injEq]at h;subst h;exact sZ hm hs e8 hi hx hn.1 hn.2.1 hn.2.2
    ·cases h
   ·rename_i l es hx
    split at h
    ·rename_i h0
     split at h
     ·rename_i cs ek
      split at h
      ·rename_i hz
       simp only[Option.some.injEq]at h;subst h;exact tA hm hs e8 hi hx h0 ek hz
      ·cases h
     ·cases h
    ·cases h
   ·cases h
  ·cases h
 | ld agg n x =>
  simp only[c5]at h;split at h
  ·rename_i s t i j hx
   split at h
   ·rename_i cs ek
    simp only[Option.map_eq_some_iff]at h;obtain ⟨v,hv,rfl⟩:=h;exact tC hm hs e8 hx (zF ek) hv
   ·cases h
  ·rename_i cs hx
   split at h
   ·rename_i ds hp
    simp only[Option.map_eq_some_iff]at h;obtain ⟨v,hv,rfl⟩:=h;exact tB hm hs e8 hx hp hv
   ·cases h
  ·cases h
 | st n x v =>
  simp only[c5]at h;split at h
  ·rename_i s t i j vs hx bq
   split at h
   ·rename_i hn
    simp only[Option.map_eq_some_iff]at h;obtain ⟨j7,ho,rfl⟩:=h;exact dJ hm hs e8 hx bq hn ho
   ·cases h
  ·cases h
 | mk s a4 bytes zero l c =>
  simp only[c5]at h;split at h
  ·rename_i kl a' kc b' hl hc
   split at h
   ·rename_i hn
    simp only[Option.some.injEq]at h;subst h;exact tE hm hs e8 hl hc hn.1 hn.2.1 hn.2.2.1 hn.2.2.2.1 hn.2.2.2.2
   ·cases h
  ·cases h
 | de a4 x lo hi =>
  simp only[c5]at h;have Fg : ∀ (d:Nat) (y:Option AM) (q:Nat),(match y with|none=>some d|some o=>match ρ o with | .int _ n=>if 0<=n/\n<=d then some n.toNat else none|_=>none)=some q -> ∃ n:Int,F5 ρ d y=some n/\0<=n/\n<=d/\q=n.toNat:=λ d y q hq=>by
   cases y with
   | none=>simp only[Option.some.injEq]at hq;subst hq;exact ⟨d,rfl,by omega,by omega,by simp⟩
   | some y =>
    simp only at hq;cases hy:ρ y with
    | int k n =>
     simp only[hy]at hq;split at hq
     ·rename_i hn
      simp only[Option.some.injEq]at hq;subst hq;exact ⟨n,by simp [F5,hy],hn.1,hn.2,rfl⟩
     ·cases hq
    | _=>simp [hy]at hq
  have wm : ∀ (y:Option AM) (q:Nat),(match y with|none=>some 0|some o=>match ρ o with | .int _ n=>if 0<=n then some n.toNat else none|_=>none)=some q -> ∃ n:Int,F5 ρ 0 y=some n/\0<=n/\q=n.toNat:=λ y q hq=>by
   cases y with
   | none=>simp only[Option.some.injEq]at hq;subst hq;exact ⟨0,rfl,by omega,by simp⟩
   | some y =>
    simp only at hq;cases hy:ρ y with
    | int k n =>
     simp only[hy]at hq;split at hq
     ·rename_i hn
      simp only[Option.some.injEq]at hq;subst hq;exact ⟨n,by simp [F5,hy],hn,rfl⟩
     ·cases hq
    | _=>simp [hy]at hq
  have wo : ∀ (y:Option AM) (q:Nat),(match y with|none=>some 0|some o=>match ρ o with | .int _ n=>if n=0 then some 0 else none|_=>none)=some q->F5 ρ 0 y=some 0:=λ y q hq=>by
   cases y with
   | none=>rfl
   | some y =>
    simp only at hq;cases hy:ρ y with
    | int k n =>
     simp only[hy]at hq;split at hq
     ·rename_i hn
      subst hn;simp [F5,hy]
     ·cases hq
    | _=>simp [hy]at hq
  split at h
  ·rename_i l es hx
   split at h
   ·rename_i q1 q2 h1 h2
    split at h
    ·rename_i hq
     simp only[Option.some.injEq]at h;subst h;obtain ⟨n1,b1,c1,rfl⟩:=wm _ _ h1;obtain ⟨n2,b2,c2,c3,rfl⟩:=Fg _ _ _ h2;exact tN hm hs e8 hx b1 b2 c1 (by omega) c3 hq.2
    ·cases h
   ·cases h
  ·rename_i hx
   split at h
   ·rename_i q1 q2 h1 h2
    simp only[Option.some.injEq]at h;subst h;exact tL hm hs e8 hx (wo _ _ h1) (wo _ _ h2)
   ·cases h
  ·rename_i s t z off len hx
   split at h
   ·rename_i q1 q2 h1 h2
    split at h
    ·rename_i hq
     simp only[Option.some.injEq]at h;subst h;obtain ⟨n1,b1,c1,rfl⟩:=wm _ _ h1;obtain ⟨n2,b2,c2,c3,rfl⟩:=Fg _ _ _ h2;exact tM hm hs e8 hx b1 b2 c1 (by omega) c3 hq.2
    ·cases h
   ·cases h
  ·cases h
 | ext x i =>
  simp only[c5]at h;split at h
  ·rename_i vs hx
   simp only[Option.map_eq_some_iff]at h;obtain ⟨v,hv,rfl⟩:=h;exact sT hm hs e8 hx hv
  ·cases h
 | len x =>
  simp only[c5]at h;split at h
  ·rename_i n hn
   simp only[Option.some.injEq]at h;subst h;exact tD hm hs e8 hn
  ·cases h
 | mm mx xs =>
  simp only[c5]at h;split at h
  ·cases h
  ·rename_i v r hx
   simp only[Option.map_eq_some_iff]at h;obtain ⟨q,hq,rfl⟩:=h;exact tH hm hs e8 hx hq
 | app s a4 bytes x y =>
  simp only[c5]at h;split at h
  ·rename_i ys pn
   split at h
   ·rename_i hz
    split at h
    ·rename_i s' t z len hx
     split at h
     ·rename_i b hb
      split at h
      ·rename_i hn
       obtain ⟨n1,rfl,n3,n4,n5⟩:=hn;simp only[Option.some.injEq]at h;subst h;exact sG hm hs e8 pn hz hx hb n1 n3 n4 n5
      ·cases h
     ·cases h
    ·rename_i hx
     split at h
     ·rename_i hn
      simp only[Option.some.injEq]at h;subst h;exact sF hm hs e8 pn hz hx hn.1 hn.2
     ·cases h
    ·cases h
   ·cases h
  ·cases h
 | call f xs =>
  simp only[c5]at h;split at h
  ·rename_i vs bq
   simp only[Option.map_eq_some_iff]at h;obtain ⟨r,hr,rfl⟩:=h;exact sM hC hm hs e8 (zP bq) hr
  ·cases h
 | c4 f xs =>
  simp only[c5]at h;split at h
  ·simp only[Option.map_eq_some_iff]at h
   obtain ⟨r,hr,rfl⟩:=h;exact W5 hC hm hs e8 ((TQ hr).2 m.own λ_ _=>rfl)
  ·simp only[Option.map_eq_some_iff]at h
   obtain ⟨r,hr,rfl⟩:=h;exact W5 hC hm hs e8 hr
 | kn ne x =>
  simp only[c5]at h;split at h
  ·rename_i hx
   simp only[Option.some.injEq]at h;subst h;exact UB hm hs e8 (b:=true) λ v hv=>by rw[hx]at hv;exact ⟨none,0,0,P0 hv,rfl⟩
  ·rename_i b hx
   simp only[Option.some.injEq]at h;subst h;exact UB hm hs e8 (b:=b) λ v hv=>by
    rw[hx]at hv;obtain ⟨ad,c,h1,h2⟩:=cR hv;exact ⟨ad,0,c,h1,h2⟩
  ·rename_i hx
   simp only[Option.some.injEq]at h;subst h;exact UB hm hs e8 (b:=false) λ v hv=>by rw[hx]at hv;exact rM hv
  ·rename_i hx
   simp only[Option.some.injEq]at h;subst h;exact UB hm hs e8 (b:=false) λ v hv=>by rw[hx]at hv;exact rL hv
  ·cases h
 | bad =>
  have h:(none:Option BM)=some E:=h;cases h
 | w5 s f xs =>
  simp only[c5,Option.map_eq_some_iff]at h;obtain ⟨p,hp,rfl⟩:=h;exact W5 hC hm hs (yN e8) (TS.1 hp m.own rfl)
 | bn tb x =>
  simp only[c5]at h;split at h
  ·rename_i k n hx
   split at h
   ·rename_i h0
    split at h
    ·rename_i v hv
     simp only[Option.some.injEq]at h;subst h;exact tK hm hs e8 hx h0 hv
    ·cases h
   ·cases h
  ·cases h
 | jb p f xs =>
  simp only[c5,Option.map_eq_some_iff]at h;obtain ⟨cs,ek,rfl⟩:=h;rw[hC.num];exact tF hm hs e8 ek
 | l7 f xs =>
  simp only[c5]at h;split at h
  ·rename_i hq
   split at h
   ·rename_i r hr
    split at h
    ·rename_i dt
     simp only[Option.some.injEq]at h;subst h;exact sP hC hm hs e8 hq hr dt
    ·cases h
   ·cases h
  ·cases h
 | n6 s f xs =>
  simp only[c5]at h;split at h
  ·rename_i vs bq
   simp only[Option.map_eq_some_iff]at h;obtain ⟨⟨z,es⟩,hr,rfl⟩:=h;exact sQ hC hm hs e8 (zU bq) hr
  ·cases h
 | il s n x v =>
  simp only[c5]at h;split at h
  ·rename_i s' t i j vs hx bq
   split at h
   ·rename_i hn
    obtain ⟨rfl,hn⟩:=hn;simp only[Option.map_eq_some_iff]at h;obtain ⟨j7,ho,rfl⟩:=h;have:=dJ hm hs (yZ e8) hx bq hn ho
    intro K Q hK;refine this K Q λ u m' h1 h2 h3 h4=>hK u m' ?_ h2 h3 h4
    rw[h1];exact (Lt ho).symm
   ·cases h
  ·cases h
 | l8 x xs =>
  simp only[c5]at h;split at h
  ·rename_i p f g cs hx
   split at h
   ·rename_i hg
    rw[hC.num]at hg;subst hg;split at h
    ·split at h
     ·rename_i vs bq
      simp only[Option.map_eq_some_iff]at h;obtain ⟨r,hr,rfl⟩:=h;exact sO hC hm hs e8 hx bq hr
     ·cases h
    ·simp only[Option.map_eq_some_iff]at h
     obtain ⟨r,hr,rfl⟩:=h;exact sR hC hm hs e8 hx hr
    ·split at h
     ·rename_i vs bq
      simp only[Option.map_eq_some_iff]at h;obtain ⟨r,hr,rfl⟩:=h;exact sN hC hm hs e8 hx bq hr
     ·cases h
   ·cases h
  ·cases h
end
end Go.c8

namespace Go.c8
open Go.RowKit
def DG (T:Nat->AV):AM->AV
 | .t n=>T n
 | .c v=>v
def HT (T:Nat->AV) (d:Option Nat) (v:AV):Nat->AV:=λ j=>if d=some j then v else T j
def JM (T:Nat->AV):Option (Nat × Bool)->Option Bool
 | none=>some true
 | some (g,want)=>match T g with
  | .bool b=>some (b == want)
  | .e7 []=>some false
  | _=>none
theorem eG (st:St):st.ev=DG (c6 st.tm):=by funext x;cases x<;>rfl
theorem wY (st:St) (g:Option (Nat × Bool)):EC st g=JM (c6 st.tm) g:=rfl
theorem dP (st:St) (d:Option Nat) (v:AV):c6 (st.dst d v).tm=HT (c6 st.tm) d v:=by
 cases d with
 | none=>funext j;simp [St.dst,HT]
 | some d =>
  funext j
  simp only[St.dst,HT,S1];by_cases h:j=d
  ·simp [h]
  ·simp [h,Ne.symm h]
theorem qE (st:St) (d:Option Nat) (E:BM):c6 (st.app d E).tm=HT (c6 st.tm) d (E.valOf st.own):=by
 cases E<;>simp only[St.app,BM.valOf]<;>exact dP st d _
theorem dQ (st:St) (d:Option Nat) (v:AV):(st.dst d v).own=st.own:=by cases d<;>rfl
theorem qD (st:St) (d:Option Nat) (E:BM):(st.app d E).own=E.o9 st.own:=by
 cases E with
 | val v=>simp only[St.app,BM.o9];exact dQ st d v
 | _=>rfl
section
variable {B:Nat} {S:Nat->Prop} {w0:World} {m0:M} {N:Nat}
variable {P:Program} {num:Nat->Nat} {C:Cl} {Q:Exit->Act->World->Prop}
structure EI (B:Nat) (S:Nat->Prop) (w0:World) (m0:M) (N:Nat) (T:Nat->AV) (m:M) (a:Act):Prop where
 mem:BD B S w0 m
 ext:CS B S m0 m
 tm : ∀ i,CV B S m (T i) (a.tmps.getD i undef)
 size:a.tmps.size=N
 defers:a.defers=[]
theorem EI.put {T:Nat->AV} {m m':M} {a:Act} (h:EI B S w0 m0 N T m a) (d:Option Nat) (hd : ∀ k,d=some k->k<N) {v:AV} {u:Value} (hm:BD B S w0 m') (he:CS B S m m') (hc:CV B S m' v u):EI B S w0 m0 N (HT T d v) m' (a.put d u):=by
 refine ⟨hm,h.ext.trans he,λ i => ?_,?_,?_⟩
 ·cases d with
  | none=>simpa [HT,Act.put] using he.cv (h.tm i)
  | some k =>
   have hk:k<a.tmps.size:=by rw[h.size];exact hd k rfl
   by_cases xx:i=k
   ·subst xx
    simp only[HT,if_true,Act.put];simpa [Array.getD,hk] using hc
   ·have k7 : ¬ (some k=some i):=λ e=>xx (by simpa using e.symm)
    simp only[HT,if_neg k7,Act.put];have:(a.tmps.setIfInBounds k u).getD i undef=a.tmps.getD i undef:=by
     simp [Array.getElem?_setIfInBounds_ne (Ne.symm xx)]
    rw[this];exact he.cv (h.tm i)
 ·cases d<;>simp [Act.put,h.size]
 ·cases d<;>simpa [Act.put] using h.defers
theorem EI.says {T:Nat->AV} {m:M} {a:Act} (h:EI B S w0 m0 N T m a):B3 B S m (DG T) a.eval:=Ia (λ_=>rfl) (λ_=>rfl) h.tm
theorem Kt {T:Nat->AV} {m:M} {a:Act} (h:EI B S w0 m0 N T m a) {ops:Array Oper} {o:Oper} {g':Option (Nat × Bool)} (hg:SA ops o.guard g'=true) {g:Bool} (kb:JM T g'=some g):Region.wanted o (yielded ops a.tmps)=g:=by
 unfold Region.wanted;cases Dp:o.guard with
 | none =>
  cases g' with
  | none=>simp [JM]at kb;simp [kb]
  | some _=>simp [SA,Dp]at hg
 | some jw =>
  obtain ⟨j,want⟩:=jw;cases g' with
  | none=>simp [SA,Dp]at hg
  | some tw =>
   obtain ⟨t,Hy⟩:=tw;simp only[SA,Dp,Bool.and_eq_true,beq_iff_eq]at hg;obtain ⟨rfl,hg⟩:=hg;split at hg
   ·rename_i oj vh
    have Cn:oj.dst=some t:=by simpa using hg
    have o5:=h.tm t;simp only[JM]at kb;unfold yielded;simp only[vh,Option.bind_some,Cn];split at kb
    ·rename_i b hb
     rw[hb]at o5;have hv:=OJ o5;have l6:a.tmps[t]? = some (.bool b):=by
      cases ht:a.tmps[t]? with
      | none=>simp [ht,undef]at hv
      | some x=>simp [ht]at hv;rw[hv]
     simp only[l6];simp at kb;rw[<-kb];cases b<;>cases want<;>rfl
    ·rename_i hb
     rw[hb]at o5;obtain ⟨vs,hv,hl,_⟩:=WT o5;have:vs=[]:=List.eq_nil_of_length_eq_zero (by simpa using hl.symm)
     subst this;simp at kb;subst kb;cases ht:a.tmps[t]? with
     | none=>rfl
     | some x =>
      simp [ht]at hv;subst hv;rfl
    ·cases kb
   ·cases hg
theorem mC (hC:FS P num C) {ops:Array Oper} {i:Nat} {o:Oper} {ai:AI} (hi:ops[i]? = some o) (e8:UZ P num N ops o ai=true) {T:Nat->AV} {m:M} {a:Act} (hf:EI B S w0 m0 N T m a) {g:Bool} (hg:JM T ai.guard=some g) {E:BM}
  (hE:g=true->c5 C ai.a7 (DG T) m.own ai.op=some E) {K:Act->World->Prop} (hK : ∀ m' a',m'.own=(if g then E.o9 m.own else m.own)->EI B S w0 m0 N (HT T ai.dst (if g then E.valOf m.own else .e7 [])) m' a'->K a' m'.w):wpOp P ops Q i K a m.w:=by
 simp only[UZ,Bool.and_eq_true,beq_iff_eq]at e8;obtain ⟨⟨⟨h1,h2⟩,h3⟩,h4⟩:=e8;have hd : ∀ k,o.dst=some k->k<N:=λ k hk=>by
  rw[h1]at hk;rw[hk]at h2;simpa using h2
 unfold wpOp;simp only[hi,Kt hf h3 hg];cases g with
 | true =>
  simp only[if_true];refine .inl (uE hC hf.mem hf.says h4 (hE rfl) K Q λ u m' g9 fp bj o5 => ?_);refine hK m' _ (by simpa using g9) ?_;rw[<-h1];exact hf.put o.dst hd fp bj o5
 | false =>
  simp only[Bool.false_eq_true,if_false];refine hK m _ (by simp) ?_;rw[<-h1];exact hf.put o.dst hd hf.mem (CS.refl m) iS
theorem lE {o:AI} {st e9:St} (h:B6 C o st=some e9) : ∃ g E,JM (c6 st.tm) o.guard=some g/\(g=true->c5 C o.a7 (DG (c6 st.tm)) st.own o.op=some E)/\c6 e9.tm=HT (c6 st.tm) o.dst (if g then E.valOf st.own else .e7 [])/\e9.own=(if g then E.o9 st.own else st.own):=by
 unfold B6 at h;rw[wY]at h;cases hg:JM (c6 st.tm) o.guard with
 | none=>simp [hg]at h
 | some g =>
  cases g with
  | true =>
   simp only[hg,Option.map_eq_some_iff]at h;obtain ⟨E,hE,rfl⟩:=h;rw[eG]at hE;exact ⟨true,E,rfl,λ_=>hE,qE st o.dst E,qD st o.dst E⟩
  | false =>
   simp only[hg,Option.some.injEq]at h;subst h;exact ⟨false,.val .any,rfl,λ h=>(by cases h),dP st o.dst _,dQ st o.dst _⟩
theorem SB {ops:Array Oper} : ∀ {os:List Oper} {l:List AI},MX P num N ops os l=true->os.length=l.length /\ ∀ (i:Nat) (o:Oper) (x:AI),os[i]? = some o->l[i]? = some x->UZ P num N ops o x=true
 | [],[],_=>⟨rfl,λ i o x h=>by simp at h⟩
 | o::r,x::l,h=>by
  simp only[MX,Bool.and_eq_true]at h;obtain ⟨h1,h2⟩:=SB h.2;refine ⟨by simp [h1],λ i o' x' ho hx => ?_⟩;cases i with
  | zero=>simp at ho hx;subst ho hx;exact h.1
  | succ i=>exact h2 i o' x' (by simpa using ho) (by simpa using hx)
 | [],_::_,h=>by simp [MX]at h
 | _::_,[],h=>by simp [MX]at h
theorem mD (hC:FS P num C) {ops:Array Oper} {l:List AI} (e8:MX P num N ops ops.toList l=true) : ∀ (n k:Nat) (st e9:St) (m:M) (a:Act),n+k=ops.size->CI C (l.drop k) st=some e9->m.own=st.own->EI B S w0 m0 N (c6 st.tm) m a ->
  (∀ m' a',m'.own=e9.own->EI B S w0 m0 N (c6 e9.tm) m' a'->Q .normal a' m'.w)->wpOps P ops Q (List.range' k n) a m.w
 | 0,k,st,e9,m,a,hk,hs,g9,hf,hQ=>by
  have hl:=(SB e8).1;simp at hl;rw[List.drop_eq_nil_of_le (by omega)]at hs;simp only[CI,Option.some.injEq]at hs;subst hs;simpa [wpOps] using hQ m a g9 hf
 | n+1,k,st,e9,m,a,hk,hs,g9,hf,hQ=>by
  obtain ⟨hl,hg⟩:=SB e8;simp at hl;have tl:k<l.length:=by omega
  have Gj:k<ops.size:=by omega
  rw[List.drop_eq_getElem_cons tl]at hs;simp only[CI]at hs;cases g8:B6 C l[k] st with
  | none=>simp [g8]at hs
  | some A0 =>
   simp only[g8]at hs;obtain ⟨g,E,h1,h2,h3,h4⟩:=lE g8;rw[List.range'_succ,wpOps_cons];have Ou:ops[k]? = some ops[k]:=Array.getElem?_eq_getElem Gj;refine mC hC Ou (hg k ops[k] l[k] (by simp [Gj]) (zE tl)) hf h1 (λ z7=>by rw[g9];exact h2 z7) λ m' a' er gd => ?_
   refine mD hC e8 n (k+1) A0 e9 m' a' (by omega) hs ?_ ?_ hQ
   ·rw[er,g9,h4]
   ·rw[g9]at gd
    rw[h3];exact gd
end
end Go.c8
