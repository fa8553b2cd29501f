/-
  Addresses, loads, stores, slices.
-/
import Derived.Test.YtfnglkabkfmjcaaGreatB1
import Derived.Laws.Slices
import Derived.Orders
set_option linter.unusedSimpArgs false
set_option linter.unusedVariables false
set_option linter.unnecessarySimpa false
namespace Go.c9
open Go.RowKit
section
variable {B:Nat} {S:Nat->Prop} {w0:World} {m:M}
variable {P:Program} {num:Nat->Nat} {o:Oper} {a:Act} {ρ:AQ->AV}
theorem dL {x:AV} {v:Value} (h:CV B S m x v) (h1:x ≠ .any) (h2 : ∀ cs,x ≠ .agg cs) (h3 : ∀ cs,x ≠ .j5 cs) (h4 : ∀ p f g cs,x ≠ .fn p f g cs:=by intros;simp):CC B S m x v:=by
 cases h with
 | any=>exact absurd rfl h1
 | j5 as=>exact absurd rfl (h3 as)
 | ca h=>cases h with
  | one h=>exact h
  | agg cs=>exact absurd rfl (h2 cs)
  | fn p f g cs=>exact absurd rfl (h4 p f g cs)
  | ua f g cs=>exact absurd rfl (h4 true f g cs)
theorem ZY {s t i j:Nat} {v:Value} (h:CV B S m (.ptr s t i j) v) : ∃ ad,v = .pointer (some ad)/\t<m.own.j7 s /\ ∀ b,m.own.get s t=some b -> ∃ g,m.ν s t=some g/\ad=⟨g,i*b.b9+j,none⟩:=by
 cases dL h (by simp) (by simp) (by simp) with
 | rd h=>cases h
 | ptr s t i j ad ht h'=>exact ⟨ad,rfl,ht,h'⟩
theorem jU {cs:List AV} {v:Value} (h:CV B S m (.u5 cs) v) : ∃ (b o:Nat) (u:Nat->Value) (l:Bool),v = .pointer (some ⟨b,o,none⟩)/\(cs≠[]->safe B S m l b)/\(∀ j c,cs[j]? = some c->m.w.cell? ⟨b,o+j,none⟩=some (u j))/\(∀ j c,cs[j]? = some c->Rd m.w (safe B S m) c (u j)):=by
 cases dL h (by simp) (by simp) (by simp) with
 | rd h=>cases h
 | u5 _ b o u l h1 h2 h3=>exact ⟨b,o,u,l,rfl,h1,h2,h3⟩
theorem X7 {s t z off len:Nat} {v:Value} (h:CV B S m (.row s t z off len) v) : ∃ (ad:Option Addr) (cap:Nat),v = .slice ad len cap/\t<m.own.j7 s/\0<z/\len<=cap/\(0<len->ad.isSome=true) /\
  ∀ b,m.own.get s t=some b->b.b9=z/\((len=0/\cap=0) \/ ∃ g arr e,m.ν s t=some g/\ad=some ⟨g,off*z,none⟩/\m.w.heap[g]? = some (.cells arr e (0,0))/\(off+cap)*z<=arr.size):=by
 cases dL h (by simp) (by simp) (by simp) with
 | rd h=>cases h
 | row s t z off len ad cap ht dv mg ha h'=>exact ⟨ad,cap,rfl,ht,dv,mg,ha,h'⟩
theorem dN {l:Bool} {es:List (List AV)} {v:Value} (h:CV B S m (.sl l es) v):Rd m.w (safe B S m) (.sl l es) v:=by
 cases dL h (by simp) (by simp) (by simp) with
 | rd h=>exact h
theorem Afj (hm:BU B S w0 m) (hs:CW B S m ρ a.eval) {x':AQ} {off:Nat} (h:BD P num o.op (.a7 x' off)=true) {s t i j:Nat} (hx:ρ x' = .ptr s t i j):CY B S w0 P o a m (.val (.ptr s t i (j+off))):=by
 obtain ⟨ty,x,f,fs,fd,inf,k9,h1,hu,hf,ho,hi,v9⟩:=xX h;obtain ⟨ad,hv,ht,hb⟩:=ZY (hx ▸ hs x x' h1);refine EF hm (u := .pointer (some (ad.add off))) ?_ (.ca (.one (.ptr s t i (j+off) _ ht λ b l7 => ?_)))
 ·simp [execOp,k9,hv,Instr.fieldAt,run_underlying hu,hf,Instr.sureAddr,fieldPlace,sizeOf,typeInfo,hi,v9,ho]
 ·obtain ⟨g,hg,rfl⟩:=hb b l7
  exact ⟨g,hg,by rw[HL];simp;omega⟩
theorem Afi (hm:BU B S w0 m) (hs:CW B S m ρ a.eval) {x':AQ} {off:Nat} (h:BD P num o.op (.a7 x' off)=true) {cs:List AV} (hx:ρ x' = .u5 cs):CY B S w0 P o a m (.val (.u5 (cs.drop off))):=by
 obtain ⟨ty,x,f,fs,fd,inf,k9,h1,hu,hf,ho,hi,v9⟩:=xX h;obtain ⟨b,ob,u,l,hv,hR,hc,hr⟩:=jU (hx ▸ hs x x' h1);refine EF hm (u := .pointer (some ⟨b,ob+off,none⟩)) ?_ (.ca (.one (.u5 _ b (ob+off) (λ j=>u (off+j)) l (λ m5=>hR (λ e=>m5 (by simp [e]))) (λ j c hj => ?_) (λ j c hj => ?_))))
 ·simp [execOp,k9,hv,Instr.fieldAt,run_underlying hu,hf,Instr.sureAddr,fieldPlace,sizeOf,typeInfo,hi,v9,ho,HL]
 ·rw[List.getElem?_drop]at hj
  rw[Nat.add_assoc];exact hc _ c hj
 ·rw[List.getElem?_drop]at hj
  exact hr _ c hj
theorem fJ {agg:Bool} {cs:List AV} {v:AV} (h:KD agg cs=some v) {vs:List Value} (hc:CL B S m cs vs):CV B S m v (if agg then .agg vs.toArray else vs.getD 0 undef)/\(agg=false->vs.length=1):=by
 unfold KD at h;cases agg with
 | true =>
  obtain rfl:AV.agg cs=v:=by simpa using h
  exact ⟨.ca (.agg cs vs hc),by simp⟩
 | false =>
  simp only[Bool.false_eq_true,if_false]at h;split at h
  ·rename_i c
   obtain rfl:c=v:=by simpa using h
   obtain ⟨u,hu,z0⟩:=X5 hc (j:=0) (c:=c) rfl;refine ⟨?_,λ_=>by rw[<-hc.1];rfl⟩;simp only[Bool.false_eq_true,if_false,List.getD,hu,Option.getD_some];exact .ca (.one z0)
  ·cases h
theorem Akn (t:TypeId) (agg:Bool) (inf:TypeInfo) (jl : ∀ w,(isAgg t).run P w = .ok agg w) (hi:P.info? t=some inf) (vs:List Value) (off n:Nat) (hn:inf.size=n) (hle:off+n<=vs.length) (h1:agg=false->n=1) (w:World) :
  (Go.part t vs.toArray off).run P w = .ok (if agg then .agg ((vs.drop off).take n).toArray else ((vs.drop off).take n).getD 0 undef) w:=by
 unfold Go.part;rw[Sem.run_bind,jl w];cases agg with
 | true=>simp [sizeOf,typeInfo,hi,hn,List.extract_eq_take_drop]
 | false =>
  have l9:off<vs.length:=by have:=h1 rfl;omega
  simp [l9,h1 rfl]
theorem Afk (hm:BU B S w0 m) (hs:CW B S m ρ a.eval) {x':AQ} {off n:Nat} {agg:Bool} (h:BD P num o.op (.om x' off n agg)=true) {cs ds:List AV} {v:AV} (hx:ρ x' = .agg cs) (hp:part cs off n=some ds) (hv:KD agg ds=some v) :
  CY B S w0 P o a m (.val v):=by
 obtain ⟨ty,x,f,fs,fd,inf,k9,h1,hu,hf,ho,hi,v9,jl,h0⟩:=AiA h;obtain ⟨vs,bg,n7⟩:=dK (hx ▸ hs x x' h1);unfold c9.part at hp;split at hp
 ·rename_i hle
  obtain rfl:(cs.drop off).take n=ds:=by simpa using hp
  obtain ⟨w6,mj⟩:=fJ hv (Ad8 n7 off n);have hl:=n7.1;have yg:agg=false->n=1:=λ e=>by have:=mj e;simp at this;omega
  refine EF hm ?_ w6;simp only[execOp,k9,Sem.run_bind,Instr.field,run_underlying hu,Result.andThen_ok,hf,bg,asAgg,Sem.run_pure,ho];rw[Akn fd.type agg inf jl hi vs off n v9 (by omega) yg];rfl
 ·cases hp
theorem Afq (hm:BU B S w0 m) (hs:CW B S m ρ a.eval) {len b9:Nat} {x' i':AQ} (h:BD P num o.op (.a5 (some len) b9 x' i')=true) {k:IntKind} {n:Int} {s t i0 j:Nat} (o7:ρ i' = .int k n) (hx:ρ x' = .ptr s t i0 j) (h0:0<=n) (hn:n<len) :
  CY B S w0 P o a m (.val (.ptr s t i0 (j+n.toNat*b9))):=by
 obtain ⟨ty,x,i,e,inf,k9,h1,h2,hi,v9,bh⟩:=eN h;rcases bh with ⟨tv,hl,hu,l9⟩|⟨hl,_⟩
 ·obtain rfl:len=tv:=by simpa using hl
  obtain ⟨ad,hv,ht,hb⟩:=ZY (hx ▸ hs x x' h1);have xp:=HQ (o7 ▸ hs i i' h2);refine EF hm (u := .pointer (some (ad.add (n.toNat*b9)))) ?_ (.ca (.one (.ptr s t i0 (j+n.toNat*b9) _ ht λ b l7 => ?_)))
  ·simp [execOp,k9,hv,xp,Instr.indexAt,asIntOf,run_underlying hu,Instr.sureAddr,sizeOf,typeInfo,hi,v9,h0,hn]
  ·obtain ⟨g,hg,rfl⟩:=hb b l7
   exact ⟨g,hg,by rw[HL];simp;omega⟩
 ·cases hl
theorem Afr (hm:BU B S w0 m) (hs:CW B S m ρ a.eval) {len b9:Nat} {x' i':AQ} (h:BD P num o.op (.a5 (some len) b9 x' i')=true) {k:IntKind} {n:Int} {cs:List AV} (o7:ρ i' = .int k n) (hx:ρ x' = .u5 cs) (h0:0<=n) (hn:n<len) :
  CY B S w0 P o a m (.val (.u5 (cs.drop (n.toNat*b9)))):=by
 obtain ⟨ty,x,i,e,inf,k9,h1,h2,hi,v9,bh⟩:=eN h;rcases bh with ⟨tv,hl,hu,l9⟩|⟨hl,_⟩
 ·obtain rfl:len=tv:=by simpa using hl
  obtain ⟨b,ob,u,l,hv,hR,hc,hr⟩:=jU (hx ▸ hs x x' h1);have xp:=HQ (o7 ▸ hs i i' h2);refine EF hm (u := .pointer (some ⟨b,ob+n.toNat*b9,none⟩)) ?_ (.ca (.one (.u5 _ b (ob+n.toNat*b9) (λ j=>u (n.toNat*b9+j)) l (λ m5=>hR (λ e=>m5 (by simp [e]))) (λ j c hj => ?_) (λ j c hj => ?_))))
  ·simp [execOp,k9,hv,xp,Instr.indexAt,asIntOf,run_underlying hu,Instr.sureAddr,sizeOf,typeInfo,hi,v9,h0,hn,HL]
  ·rw[List.getElem?_drop]at hj
   rw[Nat.add_assoc];exact hc _ c hj
  ·rw[List.getElem?_drop]at hj
   exact hr _ c hj
 ·cases hl
theorem Qi (ty e:TypeId) (inf:TypeInfo) (hu:P.underlying ty=some (.slice e)) (hi:P.info? e=some inf) (ad:Addr) (len cap:Nat) (k:IntKind) (n:Int) (h0:0<=n) (hn:n<len) (w:World) :
  (Instr.indexAt ty (.slice (some ad) len cap) (.int k n)).run P w = .ok (.pointer (some (ad.add (n.toNat*inf.size)))) w:=by
 simp [Instr.indexAt,asIntOf,run_underlying hu,sizeOf,typeInfo,hi,h0,hn]
theorem Afs (hm:BU B S w0 m) (hs:CW B S m ρ a.eval) {b9:Nat} {x' i':AQ} (h:BD P num o.op (.a5 none b9 x' i')=true) {k:IntKind} {n:Int} {s t z off len:Nat} (o7:ρ i' = .int k n) (hx:ρ x' = .row s t z off len) (h0:0<=n) (hn:n<len) (hz:z=b9) :
  CY B S w0 P o a m (.val (.ptr s t (off+n.toNat) 0)):=by
 obtain ⟨ty,x,i,e,inf,k9,h1,h2,hi,v9,bh⟩:=eN h;rcases bh with ⟨_,hl,_⟩|⟨_,hu,_⟩
 ·cases hl
 ·obtain ⟨ad,cap,hv,ht,dv,mg,ha,hb⟩:=X7 (hx ▸ hs x x' h1)
  have xp:=HQ (o7 ▸ hs i i' h2);obtain ⟨Dn,rfl⟩:=Option.isSome_iff_exists.1 (ha (by omega));refine EF hm (u := .pointer (some (Dn.add (n.toNat*b9)))) ?_ (.ca (.one (.ptr s t (off+n.toNat) 0 _ ht λ b l7 => ?_)))
  ·simp only[execOp,k9,hv,xp,Sem.run_bind]
   rw[Qi ty e inf hu hi Dn len cap k n h0 hn,v9];rfl
  ·obtain ⟨rj,bh⟩:=hb b l7
   rcases bh with ⟨mf,_⟩|⟨g,arr,e',hg,ma,_,_⟩
   ·omega
   ·obtain rfl:Dn=⟨g,off*z,none⟩:=by simpa using ma
    exact ⟨g,hg,by rw[HL,rj,<-hz,Nat.add_mul];rfl⟩
theorem Aft (hm:BU B S w0 m) (hs:CW B S m ρ a.eval) {b9:Nat} {x' i':AQ} (h:BD P num o.op (.a5 none b9 x' i')=true) {k:IntKind} {n:Int} {l:Bool} {es:List (List AV)} {cs:List AV} (o7:ρ i' = .int k n) (hx:ρ x' = .sl l es) (h0:0<=n) (hn:es[n.toNat]? = some cs) (hz:cs.length=b9) :
  CY B S w0 P o a m (.val (.u5 cs)):=by
 obtain ⟨ty,x,i,e,inf,k9,h1,h2,hi,v9,bh⟩:=eN h;rcases bh with ⟨_,hl,_⟩|⟨_,hu,_⟩
 ·cases hl
 ·have na:=dN (hx ▸ hs x x' h1)
  have xp:=HQ (o7 ▸ hs i i' h2);have l9:n.toNat<es.length:=(zS hn).1;generalize bg:a.eval x=v at na;cases na with
  | jv=>simp at l9
  | sl _ _ b ob v3 cap u m5 hp hR ah gn hc hr =>
   have Hu:v3=b9:=by
    rw[<-hz];exact (gn cs (zM hn)).symm
   subst Hu;refine EF hm (u := .pointer (some ⟨b,ob+n.toNat*v3,none⟩)) ?_ (.ca (.one (.u5 _ b (ob+n.toNat*v3) (u n.toNat) l (λ_=>hR) (λ j c hj => ?_) (λ j c hj=>hr _ cs hn j c hj))))
   ·simp only[execOp,k9,bg,xp,Sem.run_bind]
    rw[Qi ty e inf hu hi ⟨b,ob,none⟩ es.length cap k n h0 (by omega),v9,HL];rfl
   ·rw[Nat.add_assoc]
    exact hc _ cs hn j c hj
end
end Go.c9
namespace Go.c9
open Go.RowKit
section
variable {B:Nat} {S:Nat->Prop} {w0:World} {m:M}
variable {P:Program} {num:Nat->Nat} {o:Oper} {a:Act} {ρ:AQ->AV}
theorem oH (t:TypeId) (agg:Bool) (n:Nat) (jl : ∀ w,(isAgg t).run P w = .ok agg w) (hn:if agg then ∃ i,P.info? t=some i/\i.size=n else n=1) (ad:Addr) (vs:List Value) (hl:vs.length=n) (w:World)
  (hc : ∀ q v,vs[q]? = some v->w.cell? (ad.add q)=some v):(Instr.loadAt t (.pointer (some ad))).run P w = .ok (if agg then .agg vs.toArray else vs.getD 0 undef) w:=by
 unfold Instr.loadAt loadVar;simp only[Instr.sureAddr,Sem.run_bind,Sem.run_pure,Result.andThen_ok,jl w];cases agg with
 | true =>
  simp only[if_true]at hn;obtain ⟨i,hi,hs⟩:=hn;have:=run_loadCells_list (P:=P) w ad vs hc
  simp [sizeOf,typeInfo,hi,hs,<-hl,this]
 | false =>
  simp only[Bool.false_eq_true,if_false]at hn ⊢;have l9:0<vs.length:=by omega
  have h0:=hc 0 vs[0] (zE l9);have yf:w.cell? ad=some vs[0]:=by simpa [Addr.add] using h0
  simp [load,Sem.run,yf,l9]
theorem Re (hm:BU B S w0 m) {s t i j n:Nat} {cs:List AV} (h:m.own.qm s t i j n=some cs) : ∃ b g arr e,m.own.get s t=some b/\(0<n->m.ν s t=some g/\m.w.heap[g]? = some (.cells arr e (0,0))) /\
  ∃ vs:List Value,vs.length=n/\CL B S m cs vs /\ ∀ q v,vs[q]? = some v->arr[i*b.b9+j+q]? = some v:=by
 unfold AH.qm at h;cases hb:m.own.get s t with
 | none=>simp [hb]at h
 | some b =>
  simp only[hb]at h;cases he:b.es[i]? with
  | none=>simp [he]at h
  | some ds =>
   simp only[he,part]at h;split at h
   ·rename_i hle
    obtain rfl:(ds.drop j).take n=cs:=by simpa using h
    obtain ⟨hz,er⟩:=hm.g7 s t b hb;cases hν:m.ν s t with
    | none =>
     rw[hν]at er;rw[er]at he;simp at he
    | some g =>
     rw[hν]at er;obtain ⟨hB,arr,e,hh,z0⟩:=er;have v9 : ∀ q,q<n -> ∃ u,arr[i*b.b9+j+q]? = some u:=λ q hq=>by
      have l9:j+q<ds.length:=by omega
      obtain ⟨u,hu,_⟩:=z0 i ds he (j+q) ds[j+q] (zE l9);exact ⟨u,by rw[<-hu];congr 1;omega⟩
     refine ⟨b,g,arr,e,rfl,λ_=>⟨rfl,hh⟩,(arr.toList.drop (i*b.b9+j)).take n,?_,⟨?_,?_⟩,?_⟩
     ·rw[List.length_take,List.length_drop]
      rcases Nat.eq_zero_or_pos n with h0|h0
      ·omega
      ·obtain ⟨u,hu⟩:=v9 (n-1) (by omega)
       have:=(Array.getElem?_eq_some_iff.1 hu).1
       simp;omega
     ·rw[List.length_take,List.length_take,List.length_drop,List.length_drop]
      rcases Nat.eq_zero_or_pos n with h0|h0
      ·omega
      ·obtain ⟨u,hu⟩:=v9 (n-1) (by omega)
       have:=(Array.getElem?_eq_some_iff.1 hu).1
       simp;omega
     ·intro q c v hq hv
      rw[List.getElem?_take]at hq hv;split at hq
      ·rename_i Hb
       rw[if_pos Hb]at hv;rw[List.getElem?_drop]at hq hv;obtain ⟨u,hu,hc⟩:=z0 i ds he (j+q) c hq;have:some u=some v:=by
        rw[<-hu,<-hv];simp only[Array.getElem?_toList];congr 1;omega
       obtain rfl:u=v:=by simpa using this
       exact hc
      ·cases hq
     ·intro q v hv
      rw[List.getElem?_take]at hv;split at hv
      ·rw[List.getElem?_drop]at hv
       simpa using hv
      ·cases hv
   ·cases h
theorem dE {w:World} {g p:Nat} {arr:Array Value} {e:TypeId} (h:w.heap[g]? = some (.cells arr e (0,0))):w.cell? ⟨g,p,none⟩=arr[p]? := by
 simp [World.cell?,h]
theorem Afu (hm:BU B S w0 m) (hs:CW B S m ρ a.eval) {agg:Bool} {n:Nat} {x':AQ} (h:BD P num o.op (.ld agg n x')=true) {s t i j:Nat} {cs:List AV} {v:AV} (hx:ρ x' = .ptr s t i j) (hl:m.own.qm s t i j n=some cs) (hv:KD agg cs=some v) :
  CY B S w0 P o a m (.val v):=by
 obtain ⟨ty,x,k9,h1,jl,hn⟩:=xY h;obtain ⟨ad,bg,ht,hb⟩:=ZY (hx ▸ hs x x' h1);obtain ⟨b,g,arr,e,n8,hg,vs,iw,n7,il⟩:=Re hm hl;obtain ⟨w6,_⟩:=fJ hv n7;refine EF hm ?_ w6;simp only[execOp,k9,Sem.run_bind,bg];rw[oH ty agg n jl hn ad vs iw m.w (λ q u hq => ?_)]
 ·rfl
 ·have l9:q<vs.length:=(zS hq).1
  obtain ⟨yw,jy⟩:=hg (by omega);obtain ⟨g',fi,rfl⟩:=hb b n8;obtain rfl:g=g':=by rw[yw]at fi;simpa using fi
  rw[HL,dE jy];exact il q u hq
theorem uE (hm:BU B S w0 m) (hs:CW B S m ρ a.eval) {agg:Bool} {n:Nat} {x':AQ} (h:BD P num o.op (.ld agg n x')=true) {cs ds:List AV} {v:AV} (hx:ρ x' = .u5 cs) (hl:part cs 0 n=some ds) (hv:KD agg ds=some v) :
  CY B S w0 P o a m (.val v):=by
 obtain ⟨ty,x,k9,h1,jl,hn⟩:=xY h;obtain ⟨b,ob,u,l,bg,hR,hc,hr⟩:=jU (hx ▸ hs x x' h1);unfold c9.part at hl;split at hl
 ·rename_i hle
  obtain rfl:(cs.drop 0).take n=ds:=by simpa using hl
  have n7:CL B S m ((cs.drop 0).take n) ((List.range n).map u):=by
   refine ⟨by simp;omega,λ q c v' hq pd => ?_⟩;simp only[List.drop_zero,List.getElem?_take]at hq;split at hq
   ·rename_i Hb
    simp [Hb]at pd;subst pd;exact .rd (hr q c hq)
   ·cases hq
  obtain ⟨w6,_⟩:=fJ hv n7;refine EF hm ?_ w6;simp only[execOp,k9,Sem.run_bind,bg];rw[oH ty agg n jl hn ⟨b,ob,none⟩ ((List.range n).map u) (by simp) m.w (λ q w' hq => ?_)]
  ·rfl
  ·have Hb:q<n:=by have:=(zS hq).1;simpa using this
   simp [Hb]at hq;subst hq;rw[HL];exact hc q cs[q] (zE (by omega))
 ·cases hl
theorem pD {α:Type} (l:List α) (off:Nat) (vs:List α) (h:off+vs.length<=l.length) (q:Nat):(l.take off++vs++l.drop (off+vs.length))[q]? = if q<off then l[q]? else if q<off+vs.length then vs[q-off]? else l[q]? := by
 rw[List.append_assoc];by_cases h1:q<off
 ·rw[if_pos h1,List.getElem?_append_left (by simp;omega),List.getElem?_take,if_pos h1]
 ·rw[if_neg h1,List.getElem?_append_right (by simp;omega)]
  have e1:(l.take off).length=off:=by simp;omega
  rw[e1];by_cases h2:q<off+vs.length
  ·rw[if_pos h2,List.getElem?_append_left (by omega)]
  ·rw[if_neg h2,List.getElem?_append_right (by omega),List.getElem?_drop]
   congr 1;omega
theorem rW (hm:BU B S w0 m) {g:Nat} (hB:B<=g) (arr:Array Value):Below B w0 (m.w.setRow g arr) :=
 hm.below.trans ⟨rfl,rfl,rfl,by simp,λ k hk=>setRow_other _ _ _ _ (by omega)⟩
theorem uJ (hm:BU B S w0 m) (hs:CW B S m ρ a.eval) {n:Nat} {x' v':AQ} (h:BD P num o.op (.st n x' v')=true) {s t i j:Nat} {vs:List AV} {m6:AH} (hx:ρ x' = .ptr s t i j) (hv:cellsOf (ρ v')=some vs) (hn:vs.length=n) (k6:m.own.mq s t i j vs=some m6) :
  CY B S w0 P o a m (.eb (.j5 []) m6):=by
 obtain ⟨ty,x,v,inf,k9,h1,h2,hi,v9⟩:=AiJ h;obtain ⟨ad,bg,ht,hb⟩:=ZY (hx ▸ hs x x' h1);have n7:=dM (hs v v' h2) hv;unfold AH.mq at k6;cases n8:m.own.get s t with
 | none=>simp [n8]at k6
 | some b =>
  simp only[n8]at k6;cases he:b.es[i]? with
  | none=>simp [he]at k6
  | some cs =>
   simp only[he]at k6;split at k6
   ·rename_i hle
    obtain rfl:=Option.some.inj k6;obtain ⟨hz,er⟩:=hm.g7 s t b n8;obtain ⟨g,hg,rfl⟩:=hb b n8;rw[hg]at er;obtain ⟨hB,arr,e,hh,z0⟩:=er;have Ll:cs.length=b.b9:=hz cs (zM he);have hlen:(a.eval v).cells.toList.length=vs.length:=n7.1.symm;have w9:i<b.es.length:=(zS he).1;have Cv:i*b.b9+j+vs.length<=arr.size:=by
     rcases Nat.eq_zero_or_pos vs.length with h0|h0
     ·rcases Nat.eq_zero_or_pos j with Vv|Vv
      ·rw[h0,Vv]
       rcases Nat.eq_zero_or_pos i with rn|rn
       ·rw[rn];omega
       ·rcases Nat.eq_zero_or_pos b.b9 with dv|dv
        ·rw[dv];omega
        ·have Vr:i-1<b.es.length:=by omega
         have kj:(b.es[i-1]).length=b.b9:=hz _ (List.getElem_mem Vr);obtain ⟨u,hu,_⟩:=z0 (i-1) _ (zE Vr) (b.b9-1) _ (zE (by omega));have:=(Array.getElem?_eq_some_iff.1 hu).1
         have e1:(i-1)*b.b9+b.b9=i*b.b9:=by
          rw[<-Nat.succ_mul];congr 1;omega
         omega
      ·obtain ⟨u,hu,_⟩:=z0 i cs he (j-1) cs[j-1] (zE (by omega))
       have:=(Array.getElem?_eq_some_iff.1 hu).1
       omega
     ·obtain ⟨u,hu,_⟩:=z0 i cs he (j+vs.length-1) cs[j+vs.length-1] (zE (by omega))
      have:=(Array.getElem?_eq_some_iff.1 hu).1
      omega
    have mj:=Ad7 n7;have wj:=run_storeCells_at (P:=P) g (i*b.b9+j) e (a.eval v).cells.toList 0 arr m.w hh (by rw[hlen];omega) mj;generalize nf:(arr.toList.take (i*b.b9+j+0)++(a.eval v).cells.toList++arr.toList.drop (i*b.b9+j+0+(a.eval v).cells.toList.length)).toArray=u9 at wj;have Aj : ∀ p,u9[p]? = if p<i*b.b9+j then arr[p]? else if p<i*b.b9+j+vs.length then (a.eval v).cells.toList[p-(i*b.b9+j)]? else arr[p]? := λ p=>by
     rw[<-nf];simp only[Nat.add_zero,List.getElem?_toArray];rw[pD _ _ _ (by rw[hlen];simpa using Cv),hlen];simp only[Array.getElem?_toList]
    have qj:u9.size=arr.size:=by
     rw[<-nf];simp [hlen];have:=hlen
     simp at this;omega
    obtain ⟨k1,k2⟩:=Ale hm s t b ⟨b.b9,b.es.set i (splice cs j vs)⟩ n8 g hg arr u9 e hh rfl (λ y hy=>by
      rcases List.mem_or_eq_of_mem_set hy with hy|hy
      ·exact hz y hy
      ·rw[hy,<-Ll];simp [splice];omega) qj
     (λ i' fe o7 q c hq=>by
      show ∃ u,u9[i'*b.b9+q]? = some u/\_;change (b.es.set i (splice cs j vs))[i']? = some fe at o7;by_cases Vt:i'=i
      ·subst Vt
       rw[List.getElem?_set_self w9]at o7;obtain rfl:splice cs j vs=fe:=by simpa using o7
       unfold splice at hq;rw[pD _ _ _ hle]at hq;rw[Aj];by_cases zf:q<j
       ·rw[if_pos zf]at hq
        rw[if_pos (by omega)];exact z0 i' cs he q c hq
       ·rw[if_neg zf]at hq
        rw[if_neg (by omega)];by_cases Eg:q<j+vs.length
        ·rw[if_pos Eg]at hq
         rw[if_pos (by omega)];obtain ⟨u,hu,ga⟩:=X5 n7 hq;exact ⟨u,by rw[<-hu];congr 1;omega,ga⟩
        ·rw[if_neg Eg]at hq
         rw[if_neg (by omega)];exact z0 i' cs he q c hq
      ·rw[List.getElem?_set_ne (by omega)]at o7
       have xu:q<b.b9:=by
        rw[<-hz fe (zM o7)];exact (zS hq).1
       obtain ⟨u,hu,ga⟩:=z0 i' fe o7 q c hq;refine ⟨u,?_,ga⟩;rw[Aj,<-hu];rcases Nat.lt_or_gt_of_ne Vt with l9|te
       ·have:(i'+1)*b.b9<=i*b.b9:=Nat.mul_le_mul_right _ l9
        rw[Nat.succ_mul]at this;rw[if_pos (by omega)]
       ·have:(i+1)*b.b9<=i'*b.b9:=Nat.mul_le_mul_right _ te
        rw[Nat.succ_mul]at this;rw[if_neg (by omega),if_neg (by omega)])
     (m.w.setRow g u9) (rW hm hB u9) (by simp) (λ k hk=>setRow_other _ _ _ _ hk) (setRow_heap _ _ _ _ _ _ hh)
    intro K Q hK;refine Alv (w':=m.w.setRow g u9) ?_ (hK undef ⟨m.ν,_,m.w.setRow g u9⟩ rfl k1 k2 yW);have Oc:(a.eval v).cells.size=inf.size:=by rw[v9,<-hn,<-hlen];simp
    simp only[execOp,k9,bg,Instr.storeAt,storeVar,Instr.sureAddr,Sem.run_bind,Sem.run_pure,Result.andThen_ok,sizeOf,typeInfo,run_program,hi];rw[if_neg (by simpa using Oc)];simp only[Sem.run_bind,Sem.run_pure,Result.andThen_ok,wj]
   ·cases k6
theorem Afw (hm:BU B S w0 m) (hs:CW B S m ρ a.eval) {s b9 bytes:Nat} {zero:List AV} {l' c':AQ} (h:BD P num o.op (.mk s b9 bytes zero l' c')=true) {kl kc:IntKind} {l c:Int} (hl:ρ l' = .int kl l) (hc:ρ c' = .int kc c) (h0:0<=l) (mg:l<=c) (hb:c*bytes<=EA) (Dp:c<=9223372036854775807) (hz:zero.length=b9) :
  CY B S w0 P o a m (.new s ⟨b9,List.replicate l.toNat zero⟩ (λ t => .row s t b9 0 l.toNat)):=by
 obtain ⟨ty,lx,cx,e,inf,z,k9,h1,h2,hu,hi,v9,oo,dv,gn,m5⟩:=AiD h;have el:=HQ (hl ▸ hs lx l' h1);have ec:=HQ (hc ▸ hs cx c' h2);have n7:CL B S m zero z.cells.toList:=YD gn;have hzs:z.cells.size=b9:=by rw[<-hz,n7.1];simp
 refine uI hm s b9 l.toNat c.toNat _ (madeCells z.cells (c.toNat*inf.size)) e (Nat.pos_of_ne_zero m5) (by omega) (by rw[size_madeCells,v9];exact Nat.le_refl _) (λ x hx=>by rw[(List.mem_replicate.1 hx).2,hz]) (λ i cs o7 j c1 hj => ?_) ?_
 ·rw[List.getElem?_replicate]at o7
  split at o7
  ·rename_i w9
   obtain rfl:zero=cs:=by simpa using o7
   obtain ⟨u,ml,ga⟩:=X5 n7 hj;refine ⟨u,?_,ga⟩;have cp:j<b9:=by rw[<-hz];exact (zS hj).1
   have l9:i*b9+j<c.toNat*inf.size:=by
    rw[v9];have h3:(i+1)*b9<=c.toNat*b9:=Nat.mul_le_mul_right _ (by omega);rw[Nat.succ_mul]at h3;omega
   have Mo:(i*b9+j)%z.cells.size=j:=by rw[hzs,Nat.add_comm,Nat.add_mul_mod_self_right,Nat.mod_eq_of_lt cp]
   have Ek:z.cells[j]? = some u:=by simpa using ml
   have hjs:j<z.cells.size:=(Array.getElem?_eq_some_iff.1 Ek).1;have je:z.cells[j]=u:=(Array.getElem?_eq_some_iff.1 Ek).2;simp [madeCells,l9,Mo,hjs,je]
  ·cases o7
 ·have:=run_make (P:=P) m.w ty e inf z hu hi dv kl kc l c h0 mg (by rw[oo,Int.mul_comm];simp only[EA]at hb;omega) Dp
  simp only[execOp,k9,el,ec,Sem.run_bind,this,Result.andThen_ok,Sem.run_pure]
theorem Afh (hm:BU B S w0 m) (hs:CW B S m ρ a.eval) {x':AQ} {i:Nat} (h:BD P num o.op (.ext x' i)=true) {vs:List AV} {v:AV} (hx:ρ x' = .j5 vs) (hv:vs[i]? = some v):CY B S w0 P o a m (.val v):=by
 obtain ⟨x,k9,h1⟩:=Aiz h;obtain ⟨us,bg,hl,hc⟩:=jW (hx ▸ hs x x' h1);have l9:i<us.length:=by rw[<-hl];exact (zS hv).1
 refine EF hm (u:=us[i]) ?_ (.ca (hc i v us[i] hv (zE l9)));simp [execOp,k9,bg,Instr.extract,l9]
theorem Afv (hm:BU B S w0 m) (hs:CW B S m ρ a.eval) {x':AQ} (h:BD P num o.op (.len x')=true) {n:Nat} (hx:UE (ρ x')=some n):CY B S w0 P o a m (.val (.int .i64 n)):=by
 obtain ⟨x,t,e,k9,h1,hu⟩:=AiC h;have w6:=hs x x' h1;obtain ⟨ad,cap,bg⟩ : ∃ ad cap,a.eval x = .slice ad n cap:=by
  generalize ρ x'=av at *;cases av with
  | sl l es =>
   have hr:=dN w6;simp only[UE,Option.some.injEq]at hx;subst hx;generalize a.eval x=v at *;cases hr with
   | jv=>exact ⟨_,_,rfl⟩
   | sl=>exact ⟨_,_,rfl⟩
  | row s t z off len =>
   obtain ⟨ad,cap,hv,_⟩:=X7 w6;simp only[UE,Option.some.injEq]at hx;subst hx;exact ⟨ad,cap,hv⟩
  | nil =>
   simp only[UE,Option.some.injEq]at hx;subst hx;exact ⟨_,_,U8 w6⟩
  | _=>simp [UE]at hx
 refine EF hm (u := .int .i64 n) ?_ (UH _ _);simp [execOp,k9,resolve,invoke,builtin,bg,Builtin.len_,run_underlying hu,goInt]
theorem Aff (hm:BU B S w0 m) (hs:CW B S m ρ a.eval) {x':AQ} (h:BD P num o.op (.fm x')=true) (hx:ρ x' = .nil):CY B S w0 P o a m (.val (.int .i64 0)):=by
 obtain ⟨x,t,e,k9,h1,hu⟩:=Aix h;have bg:=U8 (hx ▸ hs x x' h1);refine EF hm (u := .int .i64 0) ?_ (UH _ _);simp [execOp,k9,resolve,invoke,builtin,bg,Builtin.cap_,run_underlying hu,goInt]
theorem WM (hs:CW B S m ρ a.eval) : ∀ {xs:List Operand} {ys:List AQ},EG xs ys=true->xs.length=ys.length /\ ∀ (j:Nat) (x:Operand) (y:AQ),xs[j]? = some x->ys[j]? = some y->CV B S m (ρ y) (a.eval x)
 | [],[],_=>⟨rfl,λ j x y h=>by simp at h⟩
 | x::r,y::l,h=>by
  simp only[EG,Bool.and_eq_true]at h;obtain ⟨ih1,pf⟩:=WM hs h.2;refine ⟨by simp [ih1],λ j x' y' hx hy => ?_⟩;cases j with
  | zero=>simp at hx hy;subst hx hy;exact hs _ _ h.1
  | succ j=>exact pf j x' y' (by simpa using hx) (by simpa using hy)
 | [],_::_,h=>by simp [EG]at h
 | _::_,[],h=>by simp [EG]at h
theorem Qj (mx:Bool) (hs:CW B S m ρ a.eval) (w:World) : ∀ (xs:List Operand) (ys:List AQ) (v:AV) (u:Value) (r:AV),EG xs ys=true->CV B S m v u->OL mx v (ys.map ρ)=some r->(∃ k n,v = .int k n) -> ∃ k n,r = .int k n /\
  ((xs.map a.eval).foldlM (if mx then Builtin.max2 else Builtin.min2) u).run P w = .ok (.int k n) w
 | [],[],v,u,r,_,hc,hm,⟨k,n,hv⟩=>by
  simp only[List.map_nil,OL,Option.some.injEq]at hm;subst hm hv;obtain rfl:=HQ hc;exact ⟨k,n,rfl,by simp⟩
 | x::xr,y::yr,v,u,r,he,hc,hm,⟨k,n,hv⟩=>by
  simp only[EG,Bool.and_eq_true]at he;simp only[List.map_cons,OL]at hm;have hx:=hs x y he.1;subst hv;obtain rfl:=HQ hc;cases hy:ρ y with
  | int k' n' =>
   rw[hy]at hx hm;have hxe:=HQ hx;simp only[UI]at hm;obtain ⟨k2,n2,rfl,h2⟩:=Qj mx hs w xr yr _ (.int k (if mx then (if n'>n then n' else n) else (if n'<n then n' else n))) r he.2 (UH _ _) hm ⟨_,_,rfl⟩;refine ⟨k2,n2,rfl,?_⟩;simp only[List.map_cons,List.foldlM_cons,Sem.run_bind,hxe];cases mx
   ·simpa [Builtin.min2] using h2
   ·simpa [Builtin.max2] using h2
  | _=>rw[hy]at hm;simp [UI]at hm
 | [],_::_,_,_,_,he,_,_,_=>by simp [EG]at he
 | _::_,[],_,_,_,he,_,_,_=>by simp [EG]at he
theorem Afz (hm:BU B S w0 m) (hs:CW B S m ρ a.eval) {mx:Bool} {n6:List AQ} (h:BD P num o.op (.mm mx n6)=true) {v r:AV} {l:List AV} (hx:n6.map ρ=v::l) (hv:OL mx v l=some r) (hi : ∃ k n,v = .int k n):CY B S w0 P o a m (.val r):=by
 obtain ⟨xs,ts,k9,he⟩:=xZ h;cases n6 with
 | nil=>simp at hx
 | cons y yr =>
  simp only[List.map_cons,List.cons.injEq]at hx;obtain ⟨rfl,rfl⟩:=hx;obtain ⟨xl⟩:=xs;cases xl with
  | nil=>simp [EG]at he
  | cons x xr =>
   simp only[EG,Bool.and_eq_true]at he;obtain ⟨k,n,rfl,o9⟩:=Qj (P:=P) mx hs m.w xr yr (ρ y) (a.eval x) r he.2 (hs x y he.1) hv hi;refine EF hm (u := .int k n) ?_ (UH _ _);cases mx
   ·simp only[execOp,k9,resolve,invoke,builtin,Builtin.min_,Sem.run_bind,Sem.run_pure,Result.andThen_ok]at o9 ⊢
    simp at o9 ⊢;rw[o9];rfl
   ·simp only[execOp,k9,resolve,invoke,builtin,Builtin.max_,Sem.run_bind,Sem.run_pure,Result.andThen_ok]at o9 ⊢
    simp at o9 ⊢;rw[o9];rfl
end
end Go.c9

namespace Go.c9
open Go.RowKit
section
variable {B:Nat} {S:Nat->Prop} {w0:World} {m:M}
variable {P:Program} {num:Nat->Nat} {o:Oper} {a:Act} {ρ:AQ->AV}
def HN (ρ:AQ->AV) (d:Nat):Option AQ->Option Int
 | none=>some d
 | some y=>match ρ y with | .int _ n=>some n|_=>none
theorem gL (ty e:TypeId) (inf:TypeInfo) (hu:P.underlying ty=some (.slice e)) (hi:P.info? e=some inf) (hs:CW B S m ρ a.eval) {lo o7:Option Operand} {pn Gd:Option AQ} (oy:TA lo pn=true) (Iw:TA o7 Gd=true)
  (ad:Option Addr) (len cap:Nat) (l h:Int) (hl:HN ρ 0 pn=some l) (hh:HN ρ len Gd=some h) (h0:0<=l) (Wa:l<=h) (hhl:h<=len) (mg:len<=cap) (w:World) :
  (Instr.sliceAt ty (.slice ad len cap) (lo.map a.eval) (o7.map a.eval) none).run P w = .ok (.slice (if cap=l.toNat then ad else ad.map (·.add (l.toNat*inf.size))) (h.toNat-l.toNat) (cap-l.toNat)) w:=by
 have xp : ∀ {x:Option Operand} {y:Option AQ} {d:Nat} {n:Int},TA x y=true->HN ρ d y=some n->(x=none/\y=none/\n=d) \/ ∃ x' k,x=some x'/\a.eval x' = .int k n:=by
  intro x y d n um hb;cases x with
  | none=>cases y with
   | none=>simp [HN]at hb;exact .inl ⟨rfl,rfl,hb.symm⟩
   | some y=>simp [TA]at um
  | some x=>cases y with
   | none=>simp [TA]at um
   | some y =>
    simp only[TA]at um;simp only[HN]at hb;cases hy:ρ y with
    | int k q =>
     rw[hy]at hb;simp only[Option.some.injEq]at hb;subst hb;exact .inr ⟨x,k,rfl,HQ (hy ▸ hs x y um)⟩
    | _=>rw[hy]at hb;cases hb
 have Al:h<=(cap:Int):=by omega
 unfold Instr.sliceAt Instr.slice Instr.sliceBounds;rcases xp oy hl with ⟨rfl,_,rfl⟩|⟨x1,k1,rfl,e1⟩<;>rcases xp Iw hh with ⟨rfl,_,rfl⟩|⟨x2,k2,rfl,e2⟩
 ·simp [run_underlying hu,sizeOf,typeInfo,hi]
 ·have pz:=run_sliceBound (P:=P) w k2 h cap .sliceAcap (by omega) Al
  simp [run_underlying hu,sizeOf,typeInfo,hi,e2,pz]
 ·have u7:=run_sliceBound (P:=P) w k1 l len .sliceB h0 (by omega)
  simp [run_underlying hu,sizeOf,typeInfo,hi,e1,u7]
 ·have pz:=run_sliceBound (P:=P) w k2 h cap .sliceAcap (by omega) Al
  have u7:=run_sliceBound (P:=P) w k1 l h.toNat .sliceB h0 (by omega);simp [run_underlying hu,sizeOf,typeInfo,hi,e1,e2,pz,u7]
theorem AfF (hm:BU B S w0 m) (hs:CW B S m ρ a.eval) {b9:Nat} {x':AQ} {pn o7:Option AQ} (h:BD P num o.op (.fx b9 x' pn o7)=true) (hx:ρ x' = .nil) (hl:HN ρ 0 pn=some 0) (hh:HN ρ 0 o7=some 0):CY B S w0 P o a m (.val .nil):=by
 obtain ⟨ty,x,lo,tf,e,inf,k9,h1,h2,h3,hu,hi,v9,m5⟩:=mG h;have bg:=U8 (hx ▸ hs x x' h1);have o9:=gL ty e inf hu hi hs h2 h3 none 0 0 0 0 hl hh (by omega) (by omega) (by omega) (by omega) m.w;refine EF hm (u := .slice none 0 0) ?_ (.ca (.one .nil));simp only[execOp,k9,bg,Sem.run_bind,Option.map_none,o9];rfl
theorem AfG (hm:BU B S w0 m) (hs:CW B S m ρ a.eval) {b9:Nat} {x':AQ} {pn o7:Option AQ} (h:BD P num o.op (.fx b9 x' pn o7)=true) {s t z off len:Nat} {l u:Int} (hx:ρ x' = .row s t z off len) (hl:HN ρ 0 pn=some l) (hh:HN ρ len o7=some u) (h0:0<=l) (Jb:l<=u) (je:u<=len) (hz:z=b9) :
  CY B S w0 P o a m (.val (.row s t z (off+l.toNat) (u.toNat-l.toNat))):=by
 obtain ⟨ty,x,lo,tf,e,inf,k9,h1,h2,h3,hu,hi,v9,m5⟩:=mG h;obtain ⟨ad,cap,bg,ht,dv,mg,ha,hb⟩:=X7 (hx ▸ hs x x' h1);have o9:=gL ty e inf hu hi hs h2 h3 ad len cap l u hl hh h0 Jb je mg m.w;refine EF hm ?_ (.ca (.one (.row s t z (off+l.toNat) (u.toNat-l.toNat) (if cap=l.toNat then ad else ad.map (·.add (l.toNat*inf.size))) (cap-l.toNat) ht dv (by omega) (λ hp => ?_) λ b l7 => ?_)))
 ·simp only[execOp,k9,bg,Sem.run_bind,Option.map_none,o9]
  rfl
 ·rw[if_neg (by omega)]
  obtain ⟨Dn,rfl⟩:=Option.isSome_iff_exists.1 (ha (by omega));rfl
 ·obtain ⟨rj,bh⟩:=hb b l7
  refine ⟨rj,?_⟩;rcases bh with ⟨mf,ja⟩|⟨g,arr,e',hg,ma,Iv,hle⟩
  ·exact .inl ⟨by omega,by omega⟩
  ·by_cases hc:cap=l.toNat
   ·exact .inl ⟨by omega,by omega⟩
   ·refine .inr ⟨g,arr,e',hg,?_,Iv,?_⟩
    ·rw[if_neg hc,ma,v9,hz]
     simp only[Option.map_some,HL,Nat.add_mul]
    ·rw[show off+l.toNat+(cap-l.toNat)=off+cap by omega]
     exact hle
theorem AfH (hm:BU B S w0 m) (hs:CW B S m ρ a.eval) {b9:Nat} {x':AQ} {pn o7:Option AQ} (h:BD P num o.op (.fx b9 x' pn o7)=true) {lt:Bool} {es:List (List AV)} {l u:Int} (hx:ρ x' = .sl lt es) (hl:HN ρ 0 pn=some l) (hh:HN ρ es.length o7=some u) (h0:0<=l) (Jb:l<=u) (je:u<=es.length) (hz : ∀ e∈es,e.length=b9) :
  CY B S w0 P o a m (.val (.sl lt ((es.take u.toNat).drop l.toNat))):=by
 obtain ⟨ty,x,lo,tf,e,inf,k9,h1,h2,h3,hu,hi,v9,m5⟩:=mG h;have na:=dN (hx ▸ hs x x' h1);generalize bg:a.eval x=v at na;cases na with
 | jv _ ad cap =>
  have o9:=gL ty e inf hu hi hs h2 h3 ad 0 cap l u hl hh h0 Jb (by simpa using je) (by omega) m.w;simp only[List.length_nil]at je;rw[show (([]:List (List AV)).take u.toNat).drop l.toNat=[] by simp];refine EF hm (u := .slice (if cap=l.toNat then ad else ad.map (·.add (l.toNat*inf.size))) 0 (cap-l.toNat)) ?_ (.ca (.one (.rd (.jv lt _ _))));simp only[execOp,k9,bg,Sem.run_bind,Option.map_none,o9];rw[show u.toNat-l.toNat=0 by omega];rfl
 | sl _ _ b ob v3 cap uu vt hp hR ah gn hc hr =>
  have o9:=gL ty e inf hu hi hs h2 h3 (some ⟨b,ob,none⟩) es.length cap l u hl hh h0 Jb je ah m.w;have Hu:v3=b9:=by
   cases es with
   | nil=>exact absurd rfl vt
   | cons q r=>rw[<-gn q (by simp),hz q (by simp)]
  subst Hu;by_cases dv:u.toNat-l.toNat=0
  ·have:(es.take u.toNat).drop l.toNat=[]:=by
    apply List.eq_nil_of_length_eq_zero;simp;omega
   rw[this];refine EF hm (u := .slice (if cap=l.toNat then some ⟨b,ob,none⟩ else (some (⟨b,ob,none⟩:Addr)).map (·.add (l.toNat*inf.size))) 0 (cap-l.toNat)) ?_ (.ca (.one (.rd (Rd.jv lt _ _))));simp only[execOp,k9,bg,Sem.run_bind,Option.map_none,o9];rw[dv];rfl
  ·have hlen:((es.take u.toNat).drop l.toNat).length=u.toNat-l.toNat:=by simp;omega
   have n8 : ∀ i,i<u.toNat-l.toNat->((es.take u.toNat).drop l.toNat)[i]? = es[l.toNat+i]? := λ i o7=>by
    rw[List.getElem?_drop,List.getElem?_take,if_pos (by omega)]
   refine EF hm (u := .slice (some ⟨b,ob+l.toNat*v3,none⟩) ((es.take u.toNat).drop l.toNat).length (cap-l.toNat)) ?_ (.ca (.one (.rd (.sl lt _ b (ob+l.toNat*v3) v3 (cap-l.toNat) (λ i j=>uu (l.toNat+i) j) (λ e=>dv (by rw[<-hlen,e];rfl)) hp hR (by rw[hlen];omega) (λ q hq=>gn q (List.mem_of_mem_take (List.mem_of_mem_drop hq))) (λ i q o7 j c hj => ?_) (λ i q o7 j c hj => ?_)))))
   ·simp only[execOp,k9,bg,Sem.run_bind,Option.map_none,o9]
    rw[if_neg (by omega),hlen,v9];simp only[Option.map_some,HL];rfl
   ·have w9:i<u.toNat-l.toNat:=by rw[<-hlen];exact (zS o7).1
    rw[n8 i w9]at o7;rw[show ob+l.toNat*v3+(i*v3+j)=ob+((l.toNat+i)*v3+j) by rw[Nat.add_mul];omega];exact hc _ q o7 j c hj
   ·have w9:i<u.toNat-l.toNat:=by rw[<-hlen];exact (zS o7).1
    rw[n8 i w9]at o7;exact hr _ q o7 j c hj
structure ZF (B:Nat) (S:Nat->Prop) (m:M) (b9:Nat) (ys:List (List AV)) (ad:Option Addr) (news:List Value):Prop where
 len:news.length=ys.length*b9
 cells : ∀ b,ad=some b -> ∀ j v,news[j]? = some v->m.w.cell? (b.add j)=some v
 some_:ys≠[]->ad.isSome=true
 rel : ∀ i cs,ys[i]? = some cs -> ∀ j c,cs[j]? = some c -> ∃ u,news[i*b9+j]? = some u/\CC B S m c u
theorem AeU (b9 i j:Nat) (h:j<b9):(i*b9+j)/b9=i/\(i*b9+j)%b9=j:=by
 constructor
 ·rw[Nat.add_comm,Nat.add_mul_div_right _ _ (by omega),Nat.div_eq_of_lt h,Nat.zero_add]
 ·rw[Nat.add_comm,Nat.add_mul_mod_self_right,Nat.mod_eq_of_lt h]
theorem kR (hm:BU B S w0 m) {av:AV} {v:Value} (hc:CV B S m av v) {ys:List (List AV)} (he:ES m.own av=some ys) {b9:Nat} (hz : ∀ e∈ys,e.length=b9) (h0:0<b9) :
  ∃ ad cap news,v = .slice ad ys.length cap/\ZF B S m b9 ys ad news:=by
 cases av with
 | sl l es =>
  simp only[ES,Option.some.injEq]at he;subst he;cases dN hc with
  | jv _ ad cap=>exact ⟨ad,cap,[],rfl,by simp,λ b _ j v hv=>by simp at hv,λ h=>absurd rfl h,λ i cs hi=>by simp at hi⟩
  | sl _ _ b ob v3 cap uu vt hp hR ah gn n7 hr =>
   have Hu:v3=b9:=by
    cases es with
    | nil=>exact absurd rfl vt
    | cons q r=>rw[<-gn q (by simp),hz q (by simp)]
   subst Hu;refine ⟨some ⟨b,ob,none⟩,cap,(List.range (es.length*v3)).map (λ k=>uu (k/v3) (k%v3)),rfl,by simp,λ b' l7 j v hv => ?_,λ_=>rfl,λ i cs hi j c hj => ?_⟩
   ·obtain rfl:(⟨b,ob,none⟩:Addr)=b':=by simpa using l7
    rw[List.getElem?_map]at hv;have cp:j<es.length*v3:=by
     rcases Nat.lt_or_ge j (es.length*v3) with h|h
     ·exact h
     ·rw[List.getElem?_eq_none (by simpa using h)]at hv;cases hv
    rw[List.getElem?_range cp]at hv;simp only[Option.map_some,Option.some.injEq]at hv;subst hv;have hd:j/v3<es.length:=Nat.div_lt_of_lt_mul (by rw[Nat.mul_comm];exact cp);have Mn:j%v3<v3:=Nat.mod_lt _ h0;have fg:(es[j/v3]).length=v3:=gn _ (List.getElem_mem hd);have:=n7 (j/v3) _ (zE hd) (j%v3) _ (zE (by rw[fg];exact Mn))
    rw[HL,<-this];congr 2;have:=Nat.div_add_mod j v3
    rw[Nat.mul_comm]at this;omega
   ·have cp:j<v3:=by rw[<-gn cs (zM hi)];exact (zS hj).1
    have w9:i<es.length:=(zS hi).1;have l9:i*v3+j<es.length*v3:=by
     have:(i+1)*v3<=es.length*v3:=Nat.mul_le_mul_right _ w9
     rw[Nat.succ_mul]at this;omega
    obtain ⟨e1,e2⟩:=AeU v3 i j cp;refine ⟨uu i j,?_,.rd (hr i cs hi j c hj)⟩;rw[List.getElem?_map,List.getElem?_range l9];simp [e1,e2]
 | nil =>
  simp only[ES,Option.some.injEq]at he;subst he;exact ⟨none,0,[],U8 hc,by simp,λ b hb=>(by cases hb),λ h=>absurd rfl h,λ i cs hi=>by simp at hi⟩
 | row s t z off len =>
  obtain ⟨ad,cap,hv,ht,dv,mg,ha,hb⟩:=X7 hc;simp only[ES]at he;cases n8:m.own.get s t with
  | none=>simp [n8]at he
  | some b =>
   simp only[n8]at he;split at he
   ·rename_i hle
    obtain ⟨hle,rj⟩:=hle;obtain rfl:=Option.some.inj he;have ql:((b.es.drop off).take len).length=len:=by simp;omega
    obtain ⟨_,bh⟩:=hb b n8;by_cases mf:len=0
    ·subst mf
     refine ⟨ad,cap,[],by simpa using hv,by simp,λ b _ j v hv=>by simp at hv,λ h=>absurd (by simp) h,λ i cs hi=>by simp at hi⟩
    ·rcases bh with ⟨h1,_⟩|⟨g,arr,e',hg,ma,Iv,Avb⟩
     ·exact absurd h1 mf
     ·obtain ⟨gn,er⟩:=hm.g7 s t b n8
      rw[hg]at er;obtain ⟨hB,uw,e2,Ao,z0⟩:=er;rw[Iv]at Ao;obtain ⟨rfl,rfl⟩:arr=uw/\e'=e2:=by simpa using Ao
      have hez:b9=z:=by
       have l9:off<b.es.length:=by omega
       have h1:b.es[off]∈(b.es.drop off).take len:=by
        have:((b.es.drop off).take len)[0]? = some b.es[off]:=by
         rw[List.getElem?_take,if_pos (by omega),List.getElem?_drop];simp [l9]
        exact zM this
       rw[<-hz _ h1,gn _ (List.getElem_mem l9),rj]
      subst hez;have v9:off*b9+len*b9<=arr.size:=by
       have:(off+len)*b9<=(off+cap)*b9:=Nat.mul_le_mul_right _ (by omega)
       rw[Nat.add_mul]at this;omega
      refine ⟨ad,cap,(arr.toList.drop (off*b9)).take (len*b9),by rw[ql];exact hv,by rw[ql];simp;omega,λ b' l7 j v pd => ?_,λ_=>by rw[ma];rfl,λ i cs hi j c hj => ?_⟩
      ·rw[ma]at l7
       obtain rfl:(⟨g,off*b9,none⟩:Addr)=b':=by simpa using l7
       rw[List.getElem?_take]at pd;split at pd
       ·rw[List.getElem?_drop]at pd
        rw[HL,dE Iv];simpa using pd
       ·cases pd
      ·rw[List.getElem?_take]at hi
       split at hi
       ·rename_i w9
        rw[List.getElem?_drop]at hi;have cp:j<b9:=by rw[<-rj,<-gn cs (zM hi)];exact (zS hj).1
        obtain ⟨u,hu,ga⟩:=z0 (off+i) cs hi j c hj;refine ⟨u,?_,ga⟩;have l9:i*b9+j<len*b9:=by
         have:(i+1)*b9<=len*b9:=Nat.mul_le_mul_right _ w9
         rw[Nat.succ_mul]at this;omega
        rw[List.getElem?_take,if_pos l9,List.getElem?_drop,<-hu,rj];simp only[Array.getElem?_toList];congr 1;rw[Nat.add_mul];omega
       ·cases hi
   ·cases he
 | dh v' =>
  cases v' with
  | bool b =>
   simp only[ES,Option.some.injEq]at he;subst he;obtain ⟨ad,cap,hv,_⟩:=tL hc;exact ⟨ad,cap,[],hv,by simp,λ b' l7 j v pd=>by simp at pd,λ h=>absurd rfl h,λ i cs hi=>by simp at hi⟩
  | _=>simp [ES]at he
 | _=>simp [ES]at he
theorem ZF.one {b9:Nat} {ys:List (List AV)} {ad:Option Addr} {news:List Value} (h:ZF B S m b9 ys ad news) (h0:0<b9) (hz : ∀ e∈ys,e.length=b9) : ∀ u∈news,u.oneCell'=true:=by
 intro u hu;obtain ⟨k,hk,rfl⟩:=List.getElem_of_mem hu;rw[h.len]at hk;have hd:k/b9<ys.length:=Nat.div_lt_of_lt_mul (by rw[Nat.mul_comm];exact hk);have Mn:k%b9<b9:=Nat.mod_lt _ h0;have fg:(ys[k/b9]).length=b9:=hz _ (List.getElem_mem hd);obtain ⟨u',ml,hc⟩:=h.rel (k/b9) _ (zE hd) (k%b9) _ (zE (by rw[fg];exact Mn));have fq:k/b9*b9+k%b9=k:=by
  have:=Nat.div_add_mod k b9
  rw[Nat.mul_comm]at this;exact this
 rw[fq]at ml;obtain rfl:news[k]=u':=by
  have:=(zS ml).2
  exact this
 exact hc.one
theorem ZF.src {b9:Nat} {ys:List (List AV)} {ad:Option Addr} {news:List Value} (h:ZF B S m b9 ys ad news) (h0:0<b9) (hz : ∀ e∈ys,e.length=b9) {t e:TypeId} (hu:P.underlying t=some (.slice e)) (cap:Nat):Src P b9 t (.slice ad ys.length cap) ys.length news m.w:=by
 cases ad with
 | none =>
  have wq:ys=[]:=by
   cases ys with
   | nil=>rfl
   | cons y r=>exact absurd (h.some_ (by simp)) (by simp)
  subst wq;have hn:news=[]:=List.eq_nil_of_length_eq_zero (by simpa using h.len);subst hn;exact Src.ofNil m.w hu cap
 | some b=>exact Src.ofSlice m.w hu b ys.length cap news h.len (h.cells b rfl) (h.one h0 hz)
theorem Ajw (arr:Array Value) (off:Nat) (news:List Value) (h:off+news.length<=arr.size) (p:Nat):(arr.toList.take off++news++arr.toList.drop (off+news.length)).toArray[p]? = if p<off then arr[p]? else if p<off+news.length then news[p-off]? else arr[p]? := by
 simp only[List.getElem?_toArray];rw[pD _ _ _ (by simpa using h)];simp only[Array.getElem?_toList]
theorem Ake (t tx e ex:TypeId) (i:TypeInfo) (ht:P.underlying t=some (.slice e)) (hx:P.underlying tx=some (.slice ex)) (hi:P.info? e=some i) (g off qt tz:Nat) (x:Value) (n:Nat) (news:List Value) (w:World) (hs:Src P i.size tx x n news w) (ij:qt+n<=tz) (arr:Array Value) (e':TypeId)
  (hh:w.heap[g]? = some (.cells arr e' (0,0))) (v9:off+qt*i.size+news.length<=arr.size) (ty:TypeId) :
  (Builtin.append_ #[t,tx] ty #[.slice (some ⟨g,off,none⟩) qt tz,x]).run P w = .ok (.slice (some ⟨g,off,none⟩) (qt+n) tz) (w.setRow g (arr.toList.take (off+qt*i.size)++news++arr.toList.drop (off+qt*i.size+news.length)).toArray):=by
 have k6:=run_storeCells_at (P:=P) g (off+qt*i.size) e' news 0 arr w hh (by omega) hs.one;simp only[Nat.add_zero]at k6;simp [Builtin.append_,run_underlying ht,run_underlying hx,sizeOf,typeInfo,hi,hs.len,ij,hs.cells,HL,k6]
theorem Qf (t tx e ex:TypeId) (i:TypeInfo) (ht:P.underlying t=some (.slice e)) (hx:P.underlying tx=some (.slice ex)) (hi:P.info? e=some i) (ad:Option Addr) (tz:Nat) (x:Value) (w:World) (hs:Src P i.size tx x 0 [] w) (ty:TypeId) :
  (Builtin.append_ #[t,tx] ty #[.slice ad 0 tz,x]).run P w = .ok (.slice ad 0 tz) w:=by
 have hc:=hs.cells;cases ad<;>simp [Builtin.append_,run_underlying ht,run_underlying hx,sizeOf,typeInfo,hi,hs.len,hc,storeCells]
theorem Y5 {x y:Operand} {t tx:TypeId} (k9:o.op = .call ⟨.builtin .append,#[x,y],#[t,tx]⟩) {u:Value} {w w':World} (h:(Builtin.append_ #[t,tx] o.type #[a.eval x,a.eval y]).run P w = .ok u w'):(execOp a.eval o).run P w = .ok (.value u) w':=by
 simp [execOp,k9,resolve,invoke,builtin,h]
theorem AhM (dw news:List Value) (z:Array Value) (k p:Nat) (h:p<dw.length+news.length):((dw++news).toArray++Builtin.zeroCells z k)[p]? = (dw++news)[p]? := by
 rw[Array.getElem?_append_left (by simpa using h)];simp
theorem Aj8 {b9 len:Nat} {xs ys:List (List AV)} {dw news:List Value} (tt:xs.length=len) (Gx:dw.length=len*b9) (hzx : ∀ e∈xs,e.length=b9)
  (hx : ∀ i cs,xs[i]? = some cs -> ∀ j c,cs[j]? = some c -> ∃ u,dw[i*b9+j]? = some u/\CC B S m c u)
  (hy : ∀ i cs,ys[i]? = some cs -> ∀ j c,cs[j]? = some c -> ∃ u,news[i*b9+j]? = some u/\CC B S m c u) :
  ∀ i cs,(xs++ys)[i]? = some cs -> ∀ j c,cs[j]? = some c -> ∃ u,(dw++news)[i*b9+j]? = some u/\CC B S m c u:=by
 intro i cs hi j c hj;by_cases w9:i<len
 ·rw[List.getElem?_append_left (by omega)]at hi
  obtain ⟨u,hu,hc⟩:=hx i cs hi j c hj;exact ⟨u,by rw[List.getElem?_append_left (by have:=(zS hu).1;omega)];exact hu,hc⟩
 ·rw[List.getElem?_append_right (by omega),tt]at hi
  obtain ⟨u,hu,hc⟩:=hy (i-len) cs hi j c hj;refine ⟨u,?_,hc⟩;have e1:i*b9=len*b9+(i-len)*b9:=by rw[<-Nat.add_mul];congr 1;omega
  rw[List.getElem?_append_right (by omega),<-hu];congr 1;omega
theorem zC {s z n cap:Nat} {es:List (List AV)} {w':World} {g t:Nat} {arr:Array Value} {e:TypeId} (hz:0<z) (hn:n<=cap) (hg:w'.heap[g]? = some (.cells arr e (0,0))) (hc:cap*z<=arr.size) :
  CV B S ⟨j8 m s (some g),m.own.put s (((m.own s).q5 t none).new ⟨z,es⟩),w'⟩ (.row s (m.own.j7 s) z 0 n) (.slice (some ⟨g,0,none⟩) n cap):=by
 refine .ca (.one (.row s (m.own.j7 s) z 0 n _ cap ?_ hz hn (λ_=>rfl) λ b' l7=>⟨?_,.inr ⟨g,arr,e,?_,by simp,hg,by simpa using hc⟩⟩))
 ·show _<AH.j7 _ s
  rw[dJ];simp
 ·change AH.get _ s _=some b' at l7
  rw[WS,if_pos ⟨rfl,rfl⟩]at l7;obtain rfl:(⟨z,es⟩:EC)=b':=by simpa using l7
  rfl
 ·simp [j8]
theorem AdG (hm:BU B S w0 m) (ob:Obj):Below B w0 (m.w.drew.alloc ob):=hm.below.drew.alloc (by simpa using hm.size) ob
theorem Ae2 (hm:BU B S w0 m) (hs:CW B S m ρ a.eval) {s b9 bytes:Nat} {x' y':AQ} (h:BD P num o.op (.app s b9 bytes x' y')=true) {ys:List (List AV)} (hy:ES m.own (ρ y')=some ys) (hz : ∀ e∈ys,e.length=b9) {s' t len:Nat} {b:EC} (hx:ρ x' = .row s' t b9 0 len) (n8:m.own.get s' t=some b)
  (rj:b.b9=b9) (hle:len<=b.es.length) (ij:(len+ys.length)*bytes<=EA) (Dp:len+ys.length<=9223372036854775807) :
  CY B S w0 P o a m (.eb (.row s' (m.own.j7 s') b9 0 (len+ys.length)) (m.own.put s' (((m.own s').q5 t none).new ⟨b9,b.es.take len++ys⟩))):=by
 obtain ⟨x,y,ty,e,i,z,tx,ex,k9,h1,h2,hu,hi,v9,oo,dv,gn,m5,Ba⟩:=xW h;have h0:0<b9:=Nat.pos_of_ne_zero m5;obtain ⟨ad,cap,bg,ht,_,mg,ha,hb⟩:=X7 (hx ▸ hs x x' h1);obtain ⟨Bj,ku,news,xy,fg⟩:=kR hm (hs y y' h2) hy hz h0;have tp:Src P i.size tx (.slice Bj ys.length ku) ys.length news m.w:=by rw[v9];exact fg.src h0 hz Ba ku
 obtain ⟨jo,er⟩:=hm.g7 s' t b n8;obtain ⟨_,bh⟩:=hb b n8;have bm:(b.es.take len).length=len:=by simp;omega
 have Be : ∀ q∈b.es.take len++ys,q.length=b9:=λ q hq=>by
  rcases List.mem_append.1 hq with hq|hq
  ·rw[<-rj];exact jo q (List.mem_of_mem_take hq)
  ·exact hz q hq
 intro K Q hK;by_cases vh:len+ys.length<=cap
 ·rcases bh with ⟨mf,ja⟩|⟨g,arr,e',hg,ma,hh,Lo⟩
  ·have wq:ys=[]:=List.eq_nil_of_length_eq_zero (by omega)
   subst wq;subst mf ja;have ue:news=[]:=List.eq_nil_of_length_eq_zero (by simpa using fg.len);subst ue;have o9:=Qf ty tx e ex i hu Ba hi ad 0 (.slice Bj 0 ku) m.w (by simpa using tp) o.type;obtain ⟨k1,k2⟩:=mX hm s' t b ⟨b9,b.es.take 0++[]⟩ n8 none m.w hm.below (Nat.le_refl _) (λ_ _ _=>rfl) (by simp) (by simp) (by simp);refine TQ (Y5 k9 (by rw[bg,xy];simpa using o9)) (hK _ ⟨j8 m s' none,m.own.put s' (((m.own s').q5 t none).new ⟨b9,b.es.take 0++[]⟩),m.w⟩ rfl k1 k2 (.ca (.one (.row s' (m.own.j7 s') b9 0 0 ad 0 ?_ h0 (Nat.le_refl _) (λ h=>by omega) λ b' l7=>⟨?_,.inl ⟨rfl,rfl⟩⟩))))
   ·show _<AH.j7 _ s'
    rw[dJ];simp
   ·change AH.get _ s' _=some b' at l7
    rw[WS,if_pos ⟨rfl,rfl⟩]at l7;obtain rfl:(⟨b9,b.es.take 0++[]⟩:EC)=b':=by simpa using l7
    rfl
  ·have Cb:ad=some ⟨g,0,none⟩:=by simpa using ma
   rw[hg]at er;obtain ⟨hB,uw,e2,Ao,z0⟩:=er;rw[hh]at Ao;obtain ⟨rfl,rfl⟩:arr=uw/\e'=e2:=by simpa using Ao
   have Ar:news.length=ys.length*b9:=fg.len;have hbound:len*b9+news.length<=arr.size:=by
    have:(len+ys.length)*b9<=(0+cap)*b9:=Nat.mul_le_mul_right _ (by omega)
    rw[Nat.add_mul]at this;omega
   have o9:=Ake ty tx e ex i hu Ba hi g 0 len cap (.slice Bj ys.length ku) ys.length news m.w tp vh arr e' hh (by rw[v9];omega) o.type;rw[v9,Nat.zero_add]at o9;generalize nf:(arr.toList.take (len*b9)++news++arr.toList.drop (len*b9+news.length)).toArray=u9 at o9;have fi : ∀ p,u9[p]? = if p<len*b9 then arr[p]? else if p<len*b9+news.length then news[p-len*b9]? else arr[p]? := λ p=>by rw[<-nf];exact Ajw arr (len*b9) news hbound p
   have qj:u9.size=arr.size:=by rw[<-nf];simp;omega
   obtain ⟨k1,k2⟩:=mX hm s' t b ⟨b9,b.es.take len++ys⟩ n8 (some g) (m.w.setRow g u9) (rW hm hB u9) (by simp) (λ k _ vt=>setRow_other _ _ _ _ (λ e=>vt (e ▸ hg))) Be (by simp) (λ g' jy=>by
    obtain rfl:g=g':=by simpa using jy
    refine ⟨hB,.inr hg,u9,e',setRow_heap _ _ _ _ _ _ hh,λ i' cs o7 j c hj => ?_⟩;show ∃ u,u9[i'*b9+j]? = some u/\_;by_cases w9:i'<len
    ·rw[List.getElem?_append_left (by omega),List.getElem?_take,if_pos w9]at o7
     have cp:j<b9:=by rw[<-rj,<-jo cs (zM o7)];exact (zS hj).1
     obtain ⟨u,ml,ga⟩:=z0 i' cs o7 j c hj;refine ⟨u,?_,ga⟩;have:(i'+1)*b9<=len*b9:=Nat.mul_le_mul_right _ w9
     rw[Nat.succ_mul]at this;rw[fi,if_pos (by omega),<-ml,rj]
    ·rw[List.getElem?_append_right (by omega),bm]at o7
     obtain ⟨u,ml,ga⟩:=fg.rel (i'-len) cs o7 j c hj;refine ⟨u,?_,ga⟩;have je:=(zS ml).1;have e1:i'*b9=len*b9+(i'-len)*b9:=by rw[<-Nat.add_mul];congr 1;omega
     rw[fi,if_neg (by omega),if_pos (by omega),<-ml];congr 1;omega)
   exact TQ (Y5 k9 (by rw[bg,xy,Cb];exact o9)) (hK _ ⟨j8 m s' (some g),m.own.put s' (((m.own s').q5 t none).new ⟨b9,b.es.take len++ys⟩),m.w.setRow g u9⟩ rfl k1 k2 (zC h0 vh (setRow_heap _ _ _ _ _ _ hh) (by rw[qj];simpa using Lo)))
 ·have An:cap<len+ys.length:=by omega
  obtain ⟨dw,Gx,hold,Nk⟩ : ∃ dw:List Value,dw.length=len*b9/\(Builtin.firstCells i.size len (.slice ad len cap)).run P m.w.drew = .ok dw.toArray m.w.drew/\(∀ i' cs,(b.es.take len)[i']? = some cs -> ∀ j c,cs[j]? = some c -> ∃ u,dw[i'*b9+j]? = some u/\CC B S m c u):=by
   rcases bh with ⟨mf,ja⟩|⟨g,arr,e',hg,ma,hh,Lo⟩
   ·subst mf
    refine ⟨[],by simp,?_,λ i' cs o7=>by simp at o7⟩;cases ad with
    | none=>exact run_firstCells_none m.w.drew i.size 0 0 cap
    | some Dn=>exact run_firstCells_some m.w.drew i.size 0 Dn 0 cap [] (by simp) (λ j v hv=>by simp at hv)
   ·have Cb:ad=some ⟨g,0,none⟩:=by simpa using ma
    rw[hg]at er;obtain ⟨hB,uw,e2,Ao,z0⟩:=er;rw[hh]at Ao;obtain ⟨rfl,rfl⟩:arr=uw/\e'=e2:=by simpa using Ao
    have n7:len*b9<=arr.size:=by
     have:len*b9<=(0+cap)*b9:=Nat.mul_le_mul_right _ (by omega)
     omega
    refine ⟨arr.toList.take (len*b9),by simp;omega,?_,λ i' cs o7 j c hj => ?_⟩
    ·rw[Cb]
     refine run_firstCells_some m.w.drew i.size len ⟨g,0,none⟩ len cap _ (by rw[v9];simp;omega) (λ j v hv => ?_);rw[List.getElem?_take]at hv;split at hv
     ·rw[HL,dE (w:=m.w.drew) (show m.w.heap[g]? = _ from hh)]
      simpa using hv
     ·cases hv
    ·rw[List.getElem?_take]at o7
     split at o7
     ·rename_i w9
      have cp:j<b9:=by rw[<-rj,<-jo cs (zM o7)];exact (zS hj).1
      obtain ⟨u,ml,ga⟩:=z0 i' cs o7 j c hj;refine ⟨u,?_,ga⟩;have:(i'+1)*b9<=len*b9:=Nat.mul_le_mul_right _ w9
      rw[Nat.succ_mul]at this;rw[List.getElem?_take,if_pos (by omega),<-ml,rj];simp
     ·cases o7
  have o9:=run_append_grow_src (P:=P) m.w ty tx o.type e i z hu hi dv ad len cap dw hold (.slice Bj ys.length ku) ys.length news tp An (by omega) (growslice_fits An (by rw[oo];exact ij));have Ar:news.length=ys.length*b9:=fg.len;have ah:len+ys.length<=grownCap m.w (len+ys.length) cap e:=grownCap_ge _ _ _ _;generalize Gb:grownCap m.w (len+ys.length) cap e=gc at o9 ah;have jq:=AdG hm (.cells ((dw++news).toArray++Builtin.zeroCells z.cells (gc-(len+ys.length))) e);have mi:(m.w.drew.alloc (.cells ((dw++news).toArray++Builtin.zeroCells z.cells (gc-(len+ys.length))) e)).heap[m.w.heap.size]? = some (.cells ((dw++news).toArray++Builtin.zeroCells z.cells (gc-(len+ys.length))) e (0,0)):=heap_alloc_new m.w.drew _;obtain ⟨k1,k2⟩:=mX hm s' t b ⟨b9,b.es.take len++ys⟩ n8 (some m.w.heap.size) _ jq (by simp) (λ k hk _=>Below.heap_alloc m.w.drew _ k hk) Be (by simp) (λ g' jy=>by
   obtain rfl:m.w.heap.size=g':=by simpa using jy
   refine ⟨hm.size,.inl (Nat.le_refl _),_,e,mi,λ i' cs o7 j c hj => ?_⟩;obtain ⟨u,ml,ga⟩:=Aj8 bm Gx (λ q hq=>by rw[<-rj];exact jo q (List.mem_of_mem_take hq)) Nk fg.rel i' cs o7 j c hj;refine ⟨u,?_,ga⟩;rw[AhM _ _ _ _ _ (by have:=(zS ml).1;simpa using this)];exact ml)
  refine TQ (Y5 k9 (by rw[bg,xy];exact o9)) (hK _ ⟨j8 m s' (some m.w.heap.size),m.own.put s' (((m.own s').q5 t none).new ⟨b9,b.es.take len++ys⟩),_⟩ rfl k1 k2 (zC h0 ah mi ?_));have Bf:(Builtin.zeroCells z.cells (gc-(len+ys.length))).size=(gc-(len+ys.length))*b9:=by simp [Builtin.zeroCells,gn]
  rw[Array.size_append,Bf];simp only[List.size_toArray,List.length_append,Gx,Ar];rw[<-Nat.add_mul,<-Nat.add_mul];exact Nat.mul_le_mul_right _ (by omega)
theorem Ae1 (hm:BU B S w0 m) (hs:CW B S m ρ a.eval) {s b9 bytes:Nat} {x' y':AQ} (h:BD P num o.op (.app s b9 bytes x' y')=true) {ys:List (List AV)} (hy:ES m.own (ρ y')=some ys) (hz : ∀ e∈ys,e.length=b9) (hx:ρ x' = .nil)
  (ij:ys.length*bytes<=EA) (Dp:ys.length<=9223372036854775807) :
  CY B S w0 P o a m (.eb (.row s (m.own.j7 s) b9 0 ys.length) (m.own.put s ((m.own s).new ⟨b9,ys⟩))):=by
 obtain ⟨x,y,ty,e,i,z,tx,ex,k9,h1,h2,hu,hi,v9,oo,dv,gn,m5,Ba⟩:=xW h;have h0:0<b9:=Nat.pos_of_ne_zero m5;have bg:=U8 (hx ▸ hs x x' h1);obtain ⟨Bj,ku,news,xy,fg⟩:=kR hm (hs y y' h2) hy hz h0;have tp:Src P i.size tx (.slice Bj ys.length ku) ys.length news m.w:=by rw[v9];exact fg.src h0 hz Ba ku
 intro K Q hK;by_cases wq:ys=[]
 ·subst wq
  have ue:news=[]:=List.eq_nil_of_length_eq_zero (by simpa using fg.len);subst ue;have o9:=Qf ty tx e ex i hu Ba hi none 0 (.slice Bj 0 ku) m.w (by simpa using tp) o.type;obtain ⟨k1,k2⟩:=Sg hm s b9;refine TQ (Y5 k9 (by rw[bg,xy];simpa using o9)) (hK _ ⟨j8 m s none,m.own.put s ((m.own s).new ⟨b9,[]⟩),m.w⟩ rfl k1 k2 (.ca (.one (.row s (m.own.j7 s) b9 0 0 none 0 ?_ h0 (Nat.le_refl _) (λ h=>by omega) λ b' l7=>⟨?_,.inl ⟨rfl,rfl⟩⟩))))
  ·show _<AH.j7 _ s
   rw[O2];simp
  ·change AH.get _ s _=some b' at l7
   rw[GF,if_pos ⟨rfl,rfl⟩]at l7;obtain rfl:(⟨b9,[]⟩:EC)=b':=by simpa using l7
   rfl
 ·have vz:0<ys.length:=List.length_pos_iff.2 wq
  have o9:=run_append_grow_src (P:=P) m.w ty tx o.type e i z hu hi dv none 0 0 [] (run_firstCells_none m.w.drew i.size 0 0 0) (.slice Bj ys.length ku) ys.length news tp (by omega) (by omega) (growslice_fits (by omega) (by rw[oo,Nat.zero_add];exact ij));simp only[Nat.zero_add,List.nil_append]at o9;have Ar:news.length=ys.length*b9:=fg.len;have ah:ys.length<=grownCap m.w ys.length 0 e:=grownCap_ge _ _ _ _;generalize Gb:grownCap m.w ys.length 0 e=gc at o9 ah;have hd:Below m.w.heap.size m.w m.w.drew:=(Below.refl _ _).drew;obtain ⟨kn,Cm⟩:=grow hm hd;obtain ⟨k1,k2⟩:=cU kn s ⟨b9,ys⟩ (news.toArray++Builtin.zeroCells z.cells (gc-ys.length)) e hz (λ i' cs o7 j c hj=>by
   obtain ⟨u,ml,ga⟩:=fg.rel i' cs o7 j c hj;refine ⟨u,?_,Cm.cc ga⟩;have je:=(zS ml).1;show (news.toArray++Builtin.zeroCells z.cells (gc-ys.length))[i'*b9+j]? = some u;rw[Array.getElem?_append_left (by simpa using je)];simpa using ml)
  have Bf:(Builtin.zeroCells z.cells (gc-ys.length)).size=(gc-ys.length)*b9:=by simp [Builtin.zeroCells,gn]
  refine TQ (Y5 k9 (by rw[bg,xy];exact o9)) (hK _ ⟨j8 ⟨m.ν,m.own,m.w.drew⟩ s (some m.w.drew.heap.size),m.own.put s ((m.own s).new ⟨b9,ys⟩),_⟩ rfl k1 (Cm.trans k2) (nD (m:=⟨m.ν,m.own,m.w.drew⟩) h0 ah (heap_alloc_new m.w.drew _) ?_));rw[Array.size_append,Bf];simp only[List.size_toArray,Ar];rw[<-Nat.add_mul];exact Nat.mul_le_mul_right _ (by omega)
theorem Akf (w:World) (t tx ty e:TypeId) (i:TypeInfo) (z:Value) (ht:P.underlying t=some (.slice e)) {k:IntKind} (hk:P.underlying tx=some (.int k)) (hi:P.info? e=some i) (hz:i.zero=some z) (k':IntKind) (n:Nat)
  (hn:0<n) (Dp:(n:Int)<=9223372036854775807) (Uj:n*i.bytes<=EA) (m5:i.size≠0) :
  (Builtin.append_ #[t,tx] ty #[.slice none 0 0,.int k' n]).run P w =
   .ok (.slice (some ⟨w.heap.size,0,none⟩) n (grownCap w n 0 e))
    (w.drew.alloc (.cells (Builtin.zeroCells z.cells n++Builtin.zeroCells z.cells (grownCap w n 0 e-n)) e)):=by
 have vh:=growslice_fits (old:=0) (need:=n) (bytes:=i.bytes) hn Uj;have h1 : ¬ (n:Int)<0:=by omega
 have h2 : ¬ n=0:=by omega
 have h3 : ¬ (9223372036854775807<(n:Int)):=by omega
 have h5 : ¬ (281474976710656<Builtin.nextslicecap n 0*i.bytes):=by omega
 have h6 : ¬ ((281474976710656:Int)<(n:Int)*(i.bytes:Int)):=by
  have Ka:n*i.bytes<=140737488355328:=Uj;have h7:=Int.ofNat_le.2 Ka;rw[Int.natCast_mul]at h7;omega
 have hA : ∀ w':World,(asIntOf (.int k' n)).run P w' = .ok (k',(n:Int)) w':=λ w'=>rfl
 have e1:IntKind.i64.wrap (n:Int)=n:=by rw[IntKind.wrap_i64];omega
 generalize hw:IntKind.i64.wrap (n:Int)=q at e1;subst e1;simp [Builtin.append_,run_underlying ht,run_underlying hk,sizeOf,typeInfo,zeroValue,hi,hz,asInt,hA,hw,h1,h2,h3,h5,h6,m5,Question.forced,Builtin.firstCells,newRow,grownCap];intro h;rcases Nat.mul_eq_zero.1 h with h|h
 ·exact absurd h h2
 ·exact absurd h m5
theorem Ae3 (hm:BU B S w0 m) (hs:CW B S m ρ a.eval) {s b9 bytes:Nat} {x' y':AQ} (h:BD P num o.op (.oi s b9 bytes x' y')=true) (hx:ρ x' = .nil) {k':IntKind} {n:Int} (hy:ρ y' = .int k' n)
  (hn:0<n) (ij:n*bytes<=EA) (Dp:n<=9223372036854775807) :
  CY B S w0 P o a m (.new s ⟨b9,[]⟩ (λ t => .row s t b9 0 n.toNat)):=by
 obtain ⟨x,y,ty,e,i,z,tx,k,k9,h1,h2,hu,hi,v9,oo,dv,gn,m5,Ba⟩:=Ain h;have h0:0<b9:=Nat.pos_of_ne_zero m5;have bg:=U8 (hx ▸ hs x x' h1);have hey:=HQ (hy ▸ hs y y' h2);obtain ⟨q,rfl⟩ : ∃ q:Nat,n=q:=⟨n.toNat,by omega⟩;simp only[Int.toNat_natCast];intro K Q hK;have o9:=Akf (P:=P) m.w ty tx o.type e i z hu Ba hi dv k' q (by omega) Dp (by
  rw[oo];rw[<-Int.natCast_mul]at ij;exact Int.ofNat_le.1 ij) (by rw[v9];exact m5)
 have ah:q<=grownCap m.w q 0 e:=grownCap_ge _ _ _ _;generalize Gb:grownCap m.w q 0 e=gc at o9 ah;have hd:Below m.w.heap.size m.w m.w.drew:=(Below.refl _ _).drew;obtain ⟨kn,Cm⟩:=grow hm hd;obtain ⟨k1,k2⟩:=cU kn s ⟨b9,[]⟩ (Builtin.zeroCells z.cells q++Builtin.zeroCells z.cells (gc-q)) e (by simp) (λ i' cs o7 j c hj=>by simp at o7);have Bf : ∀ n,(Builtin.zeroCells z.cells n).size=n*b9:=λ n=>by simp [Builtin.zeroCells,gn]
 refine TQ (Y5 k9 (by rw[bg,hey];exact o9)) (hK _ ⟨j8 ⟨m.ν,m.own,m.w.drew⟩ s (some m.w.drew.heap.size),m.own.put s ((m.own s).new ⟨b9,[]⟩),_⟩ rfl k1 (Cm.trans k2) (nD (m:=⟨m.ν,m.own,m.w.drew⟩) h0 ah (heap_alloc_new m.w.drew _) ?_));rw[Array.size_append,Bf,Bf,<-Nat.add_mul];exact Nat.mul_le_mul_right _ (by omega)
end
end Go.c9

namespace Go.c9
open Go.RowKit
section
variable {B:Nat} {S:Nat->Prop} {w0:World} {m:M}
variable {P:Program} {num:Nat->Nat} {o:Oper} {a:Act} {ρ:AQ->AV}
structure G1 (P:Program) (num:Nat->Nat) (C:Cl):Prop where
 uz : ∀ (f:Nat) (vs:List AV) (r:AV),C.pure f vs=some r -> ∀ (us:Array Value) (w:World),(callFunc (num f) us).run P w = .ok (.enter (num f) us) w
 pq : ∀ (f:Nat) (vs:List AV) (own:AH) (r:AV × AH),C.ix f vs own=some r -> ∀ (us:Array Value) (w:World),(callFunc (num f) us).run P w = .ok (.enter (num f) us) w
 pure : ∀ (f:Nat) (vs:List AV) (r:AV),C.pure f vs=some r -> ∀ (S:Nat->Prop) (w:World) (us:List Value),vs.length=us.length->(∀ (j:Nat) (c:AV) (v:Value),vs[j]? = some c->us[j]? = some v->CA w.heap.size S ⟨λ_ _=>none,AH.emp,w⟩ c v) ->
  Calls P (num f) us.toArray w λ e w' => ∃ u,e = .returned u/\Below w.heap.size w w'/\CV w.heap.size S ⟨λ_ _=>none,AH.emp,w'⟩ r u/\A3 r
 ix : ∀ (f:Nat) (vs:List AV) (own:AH) (r:AV) (m6:AH),C.ix f vs own=some (r,m6) -> ∀ (B:Nat) (S:Nat->Prop) (w0:World) (m:M) (us:List Value),m.own=own->BU B S w0 m->vs.length=us.length->(∀ (j:Nat) (c:AV) (v:Value),vs[j]? = some c->us[j]? = some v->CV B S m c v) ->
  Calls P (num f) us.toArray m.w λ e w' => ∃ u m',e = .returned u/\m'.w=w'/\m'.own=m6/\BU B S w0 m'/\DL B S m m'/\CV B S m' r u
 num:C.num=num
end
end Go.c9

namespace Go.c9
open Go.RowKit
theorem UF {α β:Type} (f:α->Option β) : ∀ {l:List α} {l':List β},l.mapM f=some l'->l.length=l'.length /\ ∀ (i:Nat) (x:α),l[i]? = some x -> ∃ y,l'[i]? = some y/\f x=some y
 | [],l',h=>by
  simp at h;subst h;exact ⟨rfl,λ i x hx=>by simp at hx⟩
 | x::r,l',h=>by
  simp only[List.mapM_cons,Option.bind_eq_bind,Option.pure_def]at h;cases hx:f x with
  | none=>simp [hx]at h
  | some y =>
   cases hr:r.mapM f with
   | none=>simp [hx,hr]at h
   | some r' =>
    simp [hx,hr]at h;subst h;obtain ⟨h1,h2⟩:=UF f hr;refine ⟨by simp [h1],λ i z hz => ?_⟩;cases i with
    | zero=>simp at hz;subst hz;exact ⟨y,rfl,hx⟩
    | succ i=>exact h2 i z (by simpa using hz)
section
variable {B:Nat} {S:Nat->Prop} {w0:World} {m:M}
variable {P:Program} {num:Nat->Nat} {o:Oper} {a:Act} {ρ:AQ->AV}
theorem Sy (hm:BU B S w0 m) (l0:Bool) (R:Bool->Nat->Prop) (hR : ∀ l b,b<m.w.heap.size->safe B S m l b->R l b) (hL : ∀ s t g,live m s t->m.ν s t=some g->R l0 g) :
  ∀ (d:Nat) (c c':AV) (v:Value),snap m.own l0 d c=some c'->CC B S m c v->Rd m.w R c' v:=by
 intro d;induction d with
 | zero =>
  intro c c' v h hc;cases hc with
  | rd hr =>
   have:c'=c:=by cases hr<;>simp [snap]at h<;>exact h.symm
   subst this;exact hr.mono hR (λ_ _ _ _=>rfl)
  | nil=>simp [snap]at h;subst h;exact .jv _ _ _
  | _=>simp [snap]at h
 | succ d ih =>
  intro c c' v h hc;cases hc with
  | rd hr =>
   have:c'=c:=by cases hr<;>simp [snap]at h<;>exact h.symm
   subst this;exact hr.mono hR (λ_ _ _ _=>rfl)
  | nil=>simp [snap]at h;subst h;exact .jv _ _ _
  | ptr=>simp [snap]at h
  | u5=>simp [snap]at h
  | row s t z off len ad cap ht dv mg ha hb =>
   simp only[snap]at h;cases fg:ES m.own (.row s t z off len) with
   | none=>simp [fg]at h
   | some es =>
    simp only[fg]at h;cases js:es.mapM (λ cs:List AV=>cs.mapM (snap m.own l0 d)) with
    | none=>simp [js]at h
    | some es' =>
     simp [js]at h;subst h;have Ov:(∀ e∈es,e.length=z)/\es.length=len /\ ∃ b,m.own.get s t=some b:=by
      simp only[ES]at fg;cases n8:m.own.get s t with
      | none=>simp [n8]at fg
      | some b =>
       simp only[n8]at fg;split at fg
       ·rename_i hle
        obtain rfl:=Option.some.inj fg;refine ⟨λ e he => ?_,by simp;omega,b,rfl⟩;rw[<-hle.2];exact (hm.g7 s t b n8).1 e (List.mem_of_mem_drop (List.mem_of_mem_take he))
       ·cases fg
     obtain ⟨hz,hlen,b,n8⟩:=Ov;have w6:CV B S m (.row s t z off len) (.slice ad len cap):= .ca (.one (.row s t z off len ad cap ht dv mg ha hb));obtain ⟨ad2,Jz,news,Jk,hE⟩:=kR hm w6 fg hz dv;obtain ⟨rfl,_,rfl⟩:ad=ad2/\len=es.length/\cap=Jz:=by simpa using Jk
     obtain ⟨kj,vj⟩:=UF _ js;by_cases h0:es=[]
     ·subst h0
      have:es'=[]:=List.eq_nil_of_length_eq_zero (by rw[<-kj];rfl)
      subst this;have:len=0:=by rw[<-hlen];rfl
      subst this;exact .jv _ _ _
     ·obtain ⟨_,bh⟩:=hb b n8
      rcases bh with ⟨Au9,_⟩|⟨g,arr,e',hg,ma,hh,Lo⟩
      ·exact absurd (List.eq_nil_of_length_eq_zero (by omega)) h0
      ·rw[ma,<-hlen,kj]
       refine .sl l0 es' g (off*z) z cap (λ i j=>news.getD (i*z+j) undef) (λ e=>h0 (List.eq_nil_of_length_eq_zero (by rw[kj,e];rfl))) dv (hL s t g ⟨b,n8⟩ hg) (by omega) (λ e' jr => ?_) (λ i e hi j c hj => ?_) (λ i e hi j c hj => ?_)
       ·obtain ⟨i,hi,rfl⟩:=List.getElem_of_mem jr
        have o7:i<es.length:=by omega
        obtain ⟨y,hy,gx⟩:=vj i es[i] (zE o7);have:es'[i]=y:=by
         have:=(zS hy).2;exact this
        rw[this,<-(UF _ gx).1];exact hz _ (List.getElem_mem o7)
       ·have o7:i<es.length:=by rw[kj];exact (zS hi).1
        obtain ⟨y,hy,gx⟩:=vj i es[i] (zE o7);rw[hi]at hy;obtain rfl:e=y:=by simpa using hy
        obtain ⟨gk,_⟩:=UF _ gx;have Ea:j<(es[i]).length:=by rw[gk];exact (zS hj).1
        obtain ⟨u,hu,ga⟩:=hE.rel i es[i] (zE o7) j _ (zE Ea);have:=hE.cells _ ma (i*z+j) u hu
        rw[HL]at this;simp only[List.getD,hu,Option.getD_some];exact this
       ·have o7:i<es.length:=by rw[kj];exact (zS hi).1
        obtain ⟨y,hy,gx⟩:=vj i es[i] (zE o7);rw[hi]at hy;obtain rfl:e=y:=by simpa using hy
        obtain ⟨gk,jy⟩:=UF _ gx;have Ea:j<(es[i]).length:=by rw[gk];exact (zS hj).1
        obtain ⟨u,hu,ga⟩:=hE.rel i es[i] (zE o7) j _ (zE Ea);obtain ⟨c2,rl,qh⟩:=jy j _ (zE Ea);rw[hj]at rl;obtain rfl:c=c2:=by simpa using rl
        simp only[List.getD,hu,Option.getD_some];exact ih _ _ _ qh ga
def DA (w:World) (R:Bool->Nat->Prop) (c:AV) (v:Value):Prop :=
 Rd w R c v \/ ∃ (cs:List AV) (vs:List Value),c = .agg cs/\v = .agg vs.toArray/\cs.length=vs.length /\ ∀ (j:Nat) (x:AV) (u:Value),cs[j]? = some x->vs[j]? = some u->Rd w R x u
theorem gX (hm:BU B S w0 m) (l0:Bool) (R:Bool->Nat->Prop) (hR : ∀ l b,b<m.w.heap.size->safe B S m l b->R l b) (hL : ∀ s t g,live m s t->m.ν s t=some g->R l0 g)
  {c c':AV} {v:Value} (h:C6 m.own l0 c=some c') (hc:CV B S m c v):DA m.w R c' v:=by
 cases hc with
 | any v=>simp [C6,snap]at h
 | j5=>simp [C6,snap]at h
 | ca hc=>cases hc with
  | one hc =>
   have h':snap m.own l0 6 c=some c':=by
    cases hc with
    | rd hr=>cases hr<;>simpa [C6] using h
    | _=>simpa [C6] using h
   exact Or.inl (Sy hm l0 R hR hL 6 c c' v h' hc)
  | fn=>simp [C6,snap]at h
  | ua=>simp [C6,snap]at h
  | agg cs vs n7 =>
   simp only[C6]at h;cases jb:cs.mapM (snap m.own l0 6) with
   | none=>simp [jb]at h
   | some fe =>
    simp [jb]at h;subst h;obtain ⟨h1,h2⟩:=UF _ jb;refine Or.inr ⟨fe,vs,rfl,rfl,h1.symm.trans n7.1,λ j x u hx hu => ?_⟩;have hj:j<cs.length:=by rw[h1];exact (zS hx).1
    obtain ⟨y,hy,gx⟩:=h2 j cs[j] (zE hj);rw[hx]at hy;obtain rfl:x=y:=by simpa using hy
    exact Sy hm l0 R hR hL 6 _ _ _ gx (n7.2 j cs[j] u (zE hj) hu)
def DV (w:World) (R:Bool->Nat->Prop) (c:AV) (v:Value):Prop :=
 DA w R c v \/ ∃ (cs:List AV) (vs:List Value),c = .j5 cs/\v = .tuple vs.toArray/\cs.length=vs.length /\ ∀ (j:Nat) (x:AV) (u:Value),cs[j]? = some x->vs[j]? = some u->DA w R x u
theorem AkK (hm:BU B S w0 m) (l0:Bool) (R:Bool->Nat->Prop) (hR : ∀ l b,b<m.w.heap.size->safe B S m l b->R l b) (hL : ∀ s t g,live m s t->m.ν s t=some g->R l0 g)
  {c c':AV} {v:Value} (h:VW m.own l0 c=some c') (hc:CV B S m c v):DV m.w R c' v:=by
 by_cases ht : ∃ cs,c = .j5 cs
 ·obtain ⟨cs,rfl⟩:=ht
  obtain ⟨vs,rfl,hl,z0⟩:=jW hc;simp only[VW]at h;cases jb:cs.mapM (C6 m.own l0) with
  | none=>simp [jb]at h
  | some fe =>
   simp [jb]at h;subst h;obtain ⟨h1,h2⟩:=UF _ jb;refine Or.inr ⟨fe,vs,rfl,rfl,h1.symm.trans hl,λ j x u hx hu => ?_⟩;have hj:j<cs.length:=by rw[h1];exact (zS hx).1
   obtain ⟨y,hy,gx⟩:=h2 j cs[j] (zE hj);rw[hx]at hy;obtain rfl:x=y:=by simpa using hy
   exact gX hm l0 R hR hL gx (.ca (z0 j cs[j] u (zE hj) hu))
 ·have h':C6 m.own l0 c=some c':=by
   cases c<;>first|exact h|exact absurd ⟨_,rfl⟩ ht
  exact Or.inl (gX hm l0 R hR hL h' hc)
theorem DA.ca {B:Nat} {S:Nat->Prop} {m:M} {c:AV} {v:Value} (h:DA m.w (safe B S m) c v):CA B S m c v:=by
 rcases h with h|⟨cs,vs,rfl,rfl,hl,hh⟩
 ·exact .one (.rd h)
 ·exact .agg cs vs ⟨hl,λ j x u hx hu => .rd (hh j x u hx hu)⟩
theorem DV.cv {B:Nat} {S:Nat->Prop} {m:M} {c:AV} {v:Value} (h:DV m.w (safe B S m) c v):CV B S m c v:=by
 rcases h with h|⟨cs,vs,rfl,rfl,hl,hh⟩
 ·exact .ca h.ca
 ·exact .j5 cs vs hl λ j x u hx hu=>(hh j x u hx hu).ca
theorem S7 : ∀ {cs:List AV},CG cs -> ∀ (j:Nat) (c:AV),cs[j]? = some c->A3 c
 | [],_,j,c,h=>by simp at h
 | x::r,hc,j,c,h=>by
  unfold CG at hc;cases j with
  | zero=>simp at h;subst h;exact hc.1
  | succ j=>exact S7 hc.2 j c (by simpa using h)
theorem dH : ∀ {cs:List (List AV)},FP cs -> ∀ (j:Nat) (c:List AV),cs[j]? = some c->CG c
 | [],_,j,c,h=>by simp at h
 | x::r,hc,j,c,h=>by
  unfold FP at hc;cases j with
  | zero=>simp at h;subst h;exact hc.1
  | succ j=>exact dH hc.2 j c (by simpa using h)
theorem Rd.clean {w:World} {R R':Bool->Nat->Prop} (hR : ∀ b,b<w.heap.size->R false b->R' false b) {c:AV} {v:Value} (h:Rd w R c v) (hc:A3 c):Rd w R' c v:=by
 induction h with
 | int k n=>exact .int k n
 | bool b=>exact .bool b
 | str s=>exact .str s
 | jv l a cap=>exact .jv l a cap
 | emp b a cap h=>exact .emp b a cap h
 | sl l es b o b9 cap u m5 hp h1 ah hz n7 hr ih =>
  unfold A3 at hc;obtain ⟨rfl,hc⟩:=hc;obtain ⟨e,c,he,ja⟩:=aE m5 hp hz;have hb:b<w.heap.size:=WE (n7 0 e he 0 c ja);exact .sl false es b o b9 cap u m5 hp (hR b hb h1) ah hz n7 λ i e he j c hj=>ih i e he j c hj (S7 (dH hc i e he) j c hj)
theorem DA.clean {w:World} {R R':Bool->Nat->Prop} (hR : ∀ b,b<w.heap.size->R false b->R' false b) {c:AV} {v:Value} (h:DA w R c v) (hc:A3 c):DA w R' c v:=by
 rcases h with h|⟨cs,vs,rfl,rfl,hl,hh⟩
 ·exact Or.inl (h.clean hR hc)
 ·unfold A3 at hc
  exact Or.inr ⟨cs,vs,rfl,rfl,hl,λ j x u hx hu=>(hh j x u hx hu).clean hR (S7 hc j x hx)⟩
theorem DV.clean {w:World} {R R':Bool->Nat->Prop} (hR : ∀ b,b<w.heap.size->R false b->R' false b) {c:AV} {v:Value} (h:DV w R c v) (hc:A3 c):DV w R' c v:=by
 rcases h with h|⟨cs,vs,rfl,rfl,hl,hh⟩
 ·exact Or.inl (h.clean hR hc)
 ·unfold A3 at hc
  exact Or.inr ⟨cs,vs,rfl,rfl,hl,λ j x u hx hu=>(hh j x u hx hu).clean hR (S7 hc j x hx)⟩
theorem jV {B:Nat} {S:Nat->Prop} {m:M} {c:AV} {v:Value} (h:CV B S m c v) (hc:A3 c):DV m.w (safe B S m) c v:=by
 have one : ∀ {c:AV} {v:Value},CC B S m c v->A3 c->Rd m.w (safe B S m) c v:=λ h hc=>by
  cases h with
  | rd h=>exact h
  | _=>unfold A3 at hc;exact hc.elim
 have ca : ∀ {c:AV} {v:Value},CA B S m c v->A3 c->DA m.w (safe B S m) c v:=λ h hc=>by
  cases h with
  | one h=>exact Or.inl (one h hc)
  | fn=>unfold A3 at hc;exact hc.elim
  | ua=>unfold A3 at hc;exact hc.elim
  | agg cs vs h =>
   unfold A3 at hc;exact Or.inr ⟨cs,vs,rfl,rfl,h.1,λ j x u hx hu=>one (h.2 j x u hx hu) (S7 hc j x hx)⟩
 cases h with
 | any v=>unfold A3 at hc;exact hc.elim
 | ca h=>exact Or.inl (ca h hc)
 | j5 as vs hl h =>
  unfold A3 at hc;exact Or.inr ⟨as,vs,rfl,rfl,hl,λ j x u hx hu=>ca (h j x u hx hu) (S7 hc j x hx)⟩
theorem gK {f:Nat} {xs:Array Operand} {ts:Array TypeId} (k9:o.op = .call ⟨.value (.func f),xs,ts⟩) {w:World} (h:(callFunc f (xs.map a.eval)).run P w = .ok (.enter f (xs.map a.eval)) w):(execOp a.eval o).run P w = .ok (.enter f (xs.map a.eval)) w:=by
 simp [execOp,k9,resolve,Deferred.ofValue,Act.eval,invoke];exact h
theorem uH {C:Cl} (hC:G1 P num C) (hm:BU B S w0 m) {f:Nat} {us:List Value} {as:List AV} (hl:us.length=as.length) (hx : ∀ (j:Nat) (v:Value) (c:AV),us[j]? = some v->as[j]? = some c->CV B S m c v) (hex : ∀ w:World,(callFunc (num f) us.toArray).run P w = .ok (.enter (num f) us.toArray) w->(execOp a.eval o).run P w = .ok (.enter (num f) us.toArray) w) {vs:List AV} {r:AV} (hv:as.mapM (C6 m.own true)=some vs) (hr:C.pure f vs=some r):CY B S w0 P o a m (.val r):=by
 obtain ⟨gk,jy⟩:=UF _ hv;have lj : ∀ (j:Nat) (c:AV) (v:Value),vs[j]? = some c->us[j]? = some v->CA m.w.heap.size (safe B S m false) ⟨λ_ _=>none,AH.emp,m.w⟩ c v:=by
  intro j c v hc uk;have cp:j<as.length:=by rw[<-hl];exact (zS uk).1
  obtain ⟨y,hy,gx⟩:=jy j as[j] (zE cp);rw[hc]at hy;obtain rfl:c=y:=by simpa using hy
  have w6:=hx j v as[j] uk (zE cp);have uc:=gX hm true (safe m.w.heap.size (safe B S m false) ⟨λ_ _=>none,AH.emp,m.w⟩) (λ l b hb zi=>by
   cases l with
   | false=>exact .inl ⟨zi,hb⟩
   | true=>exact .inr (.inr ⟨rfl,hb⟩)) (λ s t g km hg=>by
   obtain ⟨_,arr,e,hh⟩:=hm.ge km hg;exact .inr (.inr ⟨rfl,(Array.getElem?_eq_some_iff.1 hh).1⟩)) gx w6
  exact DA.ca (m:=⟨λ_ _=>none,AH.emp,m.w⟩) uc
 have fp:=hC.pure f vs r hr (safe B S m false) m.w us (by rw[<-gk];exact hl.symm) lj;intro K Q hK;unfold Oper.wp;rw[hex _ (hC.uz f vs r hr _ _)];refine Calls.mono fp λ e w' ⟨u,jr,jq,w6,n7⟩ => ?_
 subst jr;obtain ⟨my,gj⟩:=grow hm jq;refine hK u ⟨m.ν,m.own,w'⟩ rfl my gj ?_;refine DV.cv (m:=⟨m.ν,m.own,w'⟩) ((jV w6 n7).clean (λ b hb zi => ?_) n7);rcases zi with ⟨h1,h2⟩|⟨h1,_⟩|⟨h1,_⟩
 ·exact gj.Bh false b h2 h1
 ·refine .inr (.inl ⟨Nat.le_trans hm.size h1,λ s t km hg => ?_⟩)
  obtain ⟨b',l7⟩:=Option.isSome_iff_exists.1 km;obtain ⟨_,arr,e,hh⟩:=hm.ge ⟨b',l7⟩ hg;have:=(Array.getElem?_eq_some_iff.1 hh).1
  omega
 ·cases h1
theorem uG {C:Cl} (hC:G1 P num C) (hm:BU B S w0 m) (hs:CW B S m ρ a.eval) {f:Nat} {xs:Array Operand} {n6:List AQ} (he:EG xs.toList n6=true) (hex : ∀ w:World,(callFunc (num f) (xs.map a.eval)).run P w = .ok (.enter (num f) (xs.map a.eval)) w->(execOp a.eval o).run P w = .ok (.enter (num f) (xs.map a.eval)) w) {vs:List AV} {r:AV} (hv:(n6.map ρ).mapM (C6 m.own true)=some vs) (hr:C.pure f vs=some r):CY B S w0 P o a m (.val r):=by
 obtain ⟨hl,hx⟩:=WM hs he;have gl:(xs.map a.eval)=(xs.toList.map a.eval).toArray:=by cases xs;simp
 rw[gl]at hex;refine uH hC hm (us:=xs.toList.map a.eval) (as:=n6.map ρ) (by simp [hl]) (λ j v c h1 h2 => ?_) hex hv hr;rw[List.getElem?_map]at h1 h2;cases lq:xs.toList[j]? with
 | none=>simp [lq]at h1
 | some x =>
  cases pe:n6[j]? with
  | none=>simp [pe]at h2
  | some y =>
   simp only[lq,pe,Option.map_some,Option.some.injEq]at h1 h2;subst h1 h2;exact hx j x y lq pe
theorem Ae9 {C:Cl} (hC:G1 P num C) (hm:BU B S w0 m) (hs:CW B S m ρ a.eval) {f:Nat} {n6:List AQ} (h:BD P num o.op (.call f n6)=true) {vs:List AV} {r:AV} (hv:(n6.map ρ).mapM (C6 m.own true)=some vs) (hr:C.pure f vs=some r):CY B S w0 P o a m (.val r):=by
 obtain ⟨xs,ts,k9,he⟩:=mE h;exact uG hC hm hs he (λ w h=>gK k9 h) hv hr
theorem uC {C:Cl} (hC:G1 P num C) (hm:BU B S w0 m) (hs:CW B S m ρ a.eval) {f:Nat} {n6:List AQ} (h:BD P num o.op (.g9 f n6)=true) {r:AV} {m6:AH} (hr:C.ix f (n6.map ρ) m.own=some (r,m6)):CY B S w0 P o a m (.eb r m6):=by
 obtain ⟨xs,ts,k9,he⟩:=Ait h;obtain ⟨hl,hx⟩:=WM hs he;have gl:(xs.map a.eval)=(xs.toList.map a.eval).toArray:=by cases xs;simp
 have fp:=hC.ix f (n6.map ρ) m.own r m6 hr B S w0 m (xs.toList.map a.eval) rfl hm (by simp [hl]) (λ j c v hc hv=>by
  rw[List.getElem?_map]at hc hv;cases lq:xs.toList[j]? with
  | none=>simp [lq]at hv
  | some x =>
   cases pe:n6[j]? with
   | none=>simp [pe]at hc
   | some y =>
    simp [lq]at hv;simp [pe]at hc;subst hv hc;exact hx j x y lq pe)
 intro K Q hK;unfold Oper.wp;rw[gK k9 (hC.pq f _ _ _ hr _ _),gl];refine Calls.mono fp λ e w' ⟨u,m',jr,hw,k8,my,gj,w6⟩ => ?_
 subst jr hw;exact hK u m' k8 my gj w6
theorem Adx (hm:BU B S w0 m) {w':World} (hb:Below m.w.heap.size m.w w') (s:Nat) (b:EC) (gg:Option Nat) (hz : ∀ x∈b.es,x.length=b.b9)
  (hg:match gg with|none=>b.es=[]|some g=>m.w.heap.size<=g /\ ∃ arr e,w'.heap[g]? = some (.cells arr e (0,0)) /\ ∀ i cs,b.es[i]? = some cs -> ∀ j c,cs[j]? = some c -> ∃ u,arr[i*b.b9+j]? = some u/\CC B S ⟨j8 m s gg,m.own.put s ((m.own s).new b),w'⟩ c u) :
  BU B S w0 ⟨j8 m s gg,m.own.put s ((m.own s).new b),w'⟩/\DL B S m ⟨j8 m s gg,m.own.put s ((m.own s).new b),w'⟩:=by
 have hν : ∀ s' t',live m s' t'->j8 m s gg s' t'=m.ν s' t':=λ s' t' hl=>by
  unfold j8;rw[if_neg];rintro ⟨rfl,rfl⟩
  exact fH hm _ hl
 have kg : ∀ g,gg=some g->m.w.heap.size<=g:=λ g e=>by subst e;exact hg.1
 have he:DL B S m ⟨j8 m s gg,m.own.put s ((m.own s).new b),w'⟩:=by
  refine WQ hm hb.size (λ k hk _=>hb.block k hk) (λ s' => ?_) (λ s' t' b' ht l7 => ?_) (λ s' t' g hl fi l9 => ?_)
  ·rw[O2];split
   ·rename_i h;subst h;omega
   ·exact Nat.le_refl _
  ·rw[GF]at l7
   rw[if_neg (by rintro ⟨rfl,rfl⟩;omega)]at l7;refine ⟨b',l7,rfl,hν s' t' ⟨b',l7⟩,λ g ar e' fi ha=>⟨ar,?_,rfl⟩⟩;exact (hb.block g (Array.getElem?_eq_some_iff.1 ha).1).trans ha
  ·obtain ⟨b',l7⟩:=hl
   rw[GF]at l7;by_cases h:s'=s/\t'=m.own.j7 s
   ·simp only[j8,if_pos h]at fi
    have:=kg g fi
    omega
   ·rw[if_neg h]at l7
    exact ⟨s',t',⟨b',l7⟩,by rw[<-hν s' t' ⟨b',l7⟩];exact fi⟩
 refine ⟨⟨hm.below.trans (hb.mono hm.size),Nat.le_trans hm.size hb.size,λ s' t' ht => ?_,λ s' t' b' l7 => ?_,λ s1 t1 s2 t2 b1 b2 g h1 h2 g1 g2 => ?_⟩,he⟩
 ·rw[O2]at ht
  rw[GF,if_neg]
  ·refine hm.fresh s' t' ?_
   split at ht
   ·rename_i h;subst h;omega
   ·exact ht
  ·rintro ⟨rfl,rfl⟩
   simp at ht;omega
 ·rw[GF]at l7
  by_cases h:s'=s/\t'=m.own.j7 s
  ·rw[if_pos h]at l7
   obtain rfl:b=b':=by simpa using l7
   refine ⟨hz,?_⟩;show match j8 m s gg s' t' with|none=>_|some g=>_
   rw[show j8 m s gg s' t'=gg by simp [j8,h]];cases gg with
   | none=>exact hg
   | some g=>exact ⟨Nat.le_trans hm.size hg.1,hg.2⟩
  ·rw[if_neg h]at l7
   obtain ⟨h1,h2⟩:=hm.g7 s' t' b' l7;refine ⟨h1,?_⟩;show match j8 m s gg s' t' with|none=>_|some g=>_
   rw[hν s' t' ⟨b',l7⟩];cases hv:m.ν s' t' with
   | none=>rw[hv]at h2;exact h2
   | some g =>
    rw[hv]at h2;obtain ⟨h3,ar,e',h4,h5⟩:=h2;refine ⟨h3,ar,e',(hb.block g (Array.getElem?_eq_some_iff.1 h4).1).trans h4,λ i cs hi j c hj => ?_⟩;obtain ⟨u,hu,z0⟩:=h5 i cs hi j c hj;exact ⟨u,hu,he.cc z0⟩
 ·rw[GF]at h1 h2
  have lt : ∀ s' t' b',m.own.get s' t'=some b'->j8 m s gg s' t'=some g->g<m.w.heap.size:=λ s' t' b' l7 fi=>by
   rw[hν s' t' ⟨b',l7⟩]at fi;obtain ⟨_,ar,e',h4⟩:=hm.ge ⟨b',l7⟩ fi;exact (Array.getElem?_eq_some_iff.1 h4).1
  have at_ : ∀ s' t',s'=s/\t'=m.own.j7 s->j8 m s gg s' t'=some g->m.w.heap.size<=g:=λ s' t' h fi=>by
   simp only[j8,if_pos h]at fi;exact kg g fi
  by_cases p1:s1=s/\t1=m.own.j7 s<;>by_cases p2:s2=s/\t2=m.own.j7 s
  ·exact ⟨p1.1.trans p2.1.symm,p1.2.trans p2.2.symm⟩
  ·rw[if_neg p2]at h2
   have:=lt s2 t2 b2 h2 g2
   have:=at_ s1 t1 p1 g1
   omega
  ·rw[if_neg p1]at h1
   have:=lt s1 t1 b1 h1 g1
   have:=at_ s2 t2 p2 g2
   omega
  ·rw[if_neg p1]at h1
   rw[if_neg p2]at h2;exact hm.inj s1 t1 s2 t2 b1 b2 g h1 h2 (by rw[<-hν s1 t1 ⟨b1,h1⟩];exact g1) (by rw[<-hν s2 t2 ⟨b2,h2⟩];exact g2)
theorem Afd {C:Cl} (hC:G1 P num C) (hm:BU B S w0 m) (hs:CW B S m ρ a.eval) {s f:Nat} {n6:List AQ} (h:BD P num o.op (.u6 s f n6)=true) {vs:List AV} (hv:(n6.map ρ).mapM (TL m.own true)=some vs) {z:Nat} {es:List (List AV)} (hr:SZ (C.ix f vs AH.emp)=some (z,es)) :
  CY B S w0 P o a m (.new s ⟨z,es⟩ (λ t => .row s t z 0 es.length)):=by
 obtain ⟨xs,ts,k9,he⟩:=mE (Aiv h);obtain ⟨s0,t0,o',b0,Vu,n8,rfl,n7⟩:=Adw hr;obtain ⟨hl,hx⟩:=WM hs he;obtain ⟨gk,jy⟩:=UF _ hv;have gl:(xs.map a.eval)=(xs.toList.map a.eval).toArray:=by cases xs;simp
 have lj : ∀ (j:Nat) (c:AV) (v:Value),vs[j]? = some c->(xs.toList.map a.eval)[j]? = some v->CV m.w.heap.size (safe B S m false) ⟨λ_ _=>none,AH.emp,m.w⟩ c v:=by
  intro j c v hc uk;rw[List.getElem?_map]at uk;cases lq:xs.toList[j]? with
  | none=>simp [lq]at uk
  | some x =>
   simp [lq]at uk;subst uk;have cp:j<n6.length:=by rw[<-hl];exact (zS lq).1
   obtain ⟨y,hy,gx⟩:=jy j (ρ n6[j]) (by rw[List.getElem?_map,zE cp];rfl);rw[hc]at hy;obtain rfl:c=y:=by simpa using hy
   have w6:=hx j x n6[j] lq (zE cp);have hN:(ρ n6[j] = .nil/\c = .nil)\/C6 m.own true (ρ n6[j])=some c:=by
    cases e:ρ n6[j] with
    | nil=>rw[e]at gx;exact .inl ⟨rfl,(Option.some.inj gx).symm⟩
    | _=>rw[e]at gx;exact .inr gx
   rcases hN with ⟨e1,rfl⟩|gx
   ·rw[e1]at w6
    rw[U8 w6];exact .ca (.one .nil)
   have uc:=gX hm true (safe m.w.heap.size (safe B S m false) ⟨λ_ _=>none,AH.emp,m.w⟩) (λ l b hb zi=>by
    cases l with
    | false=>exact .inl ⟨zi,hb⟩
    | true=>exact .inr (.inr ⟨rfl,hb⟩)) (λ s t g km hg=>by
    obtain ⟨_,arr,e,hh⟩:=hm.ge km hg;exact .inr (.inr ⟨rfl,(Array.getElem?_eq_some_iff.1 hh).1⟩)) gx w6
   exact .ca (DA.ca (m:=⟨λ_ _=>none,AH.emp,m.w⟩) uc)
 have hm0:BU m.w.heap.size (safe B S m false) m.w ⟨λ_ _=>none,AH.emp,m.w⟩:=⟨Below.refl _ _,Nat.le_refl _,λ_ _ _=>rfl,(λ s t b h=>by cases h),(λ_ _ _ _ _ _ _ h=>by cases h)⟩;have fp:=hC.ix f vs AH.emp _ o' Vu m.w.heap.size (safe B S m false) m.w ⟨λ_ _=>none,AH.emp,m.w⟩ (xs.toList.map a.eval) rfl hm0 (by rw[<-gk];simp [hl]) lj;intro K Q hK;unfold Oper.wp;rw[gK k9 (hC.pq f _ _ _ Vu _ _),gl];refine Calls.mono fp λ e w' ⟨u,m',jr,hw,k8,my,Vk,w6⟩ => ?_
 subst jr hw;have jq:Below m.w.heap.size m.w m'.w:=my.below;rw[<-k8]at n8;obtain ⟨hz,ni⟩:=my.g7 s0 t0 b0 n8;obtain ⟨ad,cap,rfl,ht,dv,mg,ha,hb⟩:=X7 w6;obtain ⟨gn,bh⟩:=hb b0 n8;subst gn;have hold : ∀ s t g,live m s t->m.ν s t=some g->g<m.w.heap.size:=λ s t g km hg=>by
  obtain ⟨_,arr,e,hh⟩:=hm.ge km hg;exact (Array.getElem?_eq_some_iff.1 hh).1
 have Cq : ∀ s' t' g,live ⟨j8 m s (m'.ν s0 t0),m.own.put s ((m.own s).new ⟨b0.b9,b0.es⟩),m'.w⟩ s' t'->j8 m s (m'.ν s0 t0) s' t'=some g->g<m.w.heap.size\/m'.ν s0 t0=some g:=λ s' t' g km hg=>by
  obtain ⟨b',l7⟩:=km;rw[GF]at l7;by_cases k6:s'=s/\t'=m.own.j7 s
  ·simp only[j8,if_pos k6]at hg
   exact Or.inr hg
  ·rw[if_neg k6]at l7
   simp only[j8,if_neg k6]at hg;exact Or.inl (hold s' t' g ⟨b',l7⟩ hg)
 have hR : ∀ b,b<m'.w.heap.size->safe m.w.heap.size (safe B S m false) m' false b->safe B S ⟨j8 m s (m'.ν s0 t0),m.own.put s ((m.own s).new ⟨b0.b9,b0.es⟩),m'.w⟩ false b:=λ b yp zi=>by
  rcases zi with ⟨h1,h2⟩|⟨h1,h2⟩|⟨h1,_⟩
  ·rcases h1 with h1|⟨h1,h3⟩|⟨h1,_⟩
   ·exact .inl h1
   ·refine .inr (.inl ⟨h1,λ s' t' km hg => ?_⟩)
    obtain ⟨b',l7⟩:=Option.isSome_iff_exists.1 km;have u7:=l7;rw[GF]at u7;by_cases k6:s'=s/\t'=m.own.j7 s
    ·simp only[j8,if_pos k6]at hg
     rw[hg]at ni;have:=ni.1
     omega
    ·rw[if_neg k6]at u7
     simp only[j8,if_neg k6]at hg;exact h3 s' t' (by rw[u7];rfl) hg
   ·cases h1
  ·refine .inr (.inl ⟨Nat.le_trans hm.size h1,λ s' t' km hg => ?_⟩)
   rcases Cq s' t' b (Option.isSome_iff_exists.1 km) hg with h3|h3
   ·omega
   ·exact h2 s0 t0 (by rw[n8];rfl) h3
  ·cases h1
 obtain ⟨iv,gj⟩:=Adx hm jq s ⟨b0.b9,b0.es⟩ (m'.ν s0 t0) hz (by
  cases hν:m'.ν s0 t0 with
  | none=>rw[hν]at ni;exact ni
  | some g =>
   rw[hν]at ni hR;obtain ⟨h1,arr,e,h2,h3⟩:=ni;refine ⟨h1,arr,e,h2,λ i cs hi j c hj => ?_⟩;obtain ⟨u,hu,z0⟩:=h3 i cs hi j c hj;refine ⟨u,hu,.rd ?_⟩;have vf:=S7 (dH n7 i cs hi) j c hj;have na:Rd m'.w (safe m.w.heap.size (safe B S m false) m') c u:=by
    cases z0 with
    | rd h=>exact h
    | _=>unfold A3 at vf;exact vf.elim
   exact na.clean hR vf)
 refine hK _ ⟨j8 m s (m'.ν s0 t0),m.own.put s ((m.own s).new ⟨b0.b9,b0.es⟩),m'.w⟩ rfl iv gj (.ca (.one (.row s (m.own.j7 s) b0.b9 0 b0.es.length ad cap (by show m.own.j7 s<AH.j7 (m.own.put s _) s;rw[O2,if_pos rfl];omega) dv mg ha λ b1 pz => ?_)));have yo:(m.own.put s ((m.own s).new ⟨b0.b9,b0.es⟩)).get s (m.own.j7 s)=some b1:=pz;rw[GF,if_pos ⟨rfl,rfl⟩]at yo;obtain rfl:=Option.some.inj yo;refine ⟨rfl,?_⟩;rcases bh with h0|⟨g,arr,e,hg,ma,hh,hle⟩
 ·exact .inl h0
 ·exact .inr ⟨g,arr,e,by simp [j8,hg],ma,hh,hle⟩
theorem tM {p:Bool} {f g:Nat} {cs:List AV} {v:Value} (h:CV B S m (.fn p f g cs) v) (hp:p=false\/cs=[]) : ∃ vs:List Value,v = .func (.func g) #[] vs.toArray/\CL B S m cs vs:=by
 cases h with
 | ca h=>cases h with
  | one h=>cases h with
   | rd h=>cases h
  | fn p f g cs vs hp h=>exact ⟨vs,rfl,h⟩
  | ua f g cs vs m5 h =>
   rcases hp with hp|hp
   ·cases hp
   ·exact absurd hp m5
theorem AeA {f g:Nat} {cs:List AV} {v:Value} (h:CV B S m (.fn true f g cs) v) (m5:cs≠[]) : ∃ vs:List Value,v = .func (.func g) #[.agg vs.toArray] #[]/\CL B S m cs vs:=by
 cases h with
 | ca h=>cases h with
  | one h=>cases h with
   | rd h=>cases h
  | fn p f g cs vs hp h=>exact absurd (hp rfl) m5
  | ua f g cs vs m5 h=>exact ⟨vs,rfl,h⟩
theorem Qg {f:Nat} {x:Operand} {xs:Array Operand} {ts:Array TypeId} {vs:Array Value} (k9:o.op = .call ⟨.value x,xs,ts⟩) (hx:a.eval x = .func (.func f) #[] vs) {w:World} (h:(callFunc f (xs.map a.eval++vs)).run P w = .ok (.enter f (xs.map a.eval++vs)) w):(execOp a.eval o).run P w = .ok (.enter f (xs.map a.eval++vs)) w:=by
 simp [execOp,k9,resolve,Deferred.ofValue,hx,invoke];exact h
theorem Afe {C:Cl} (hC:G1 P num C) (hm:BU B S w0 m) (hs:CW B S m ρ a.eval) {x':AQ} {n6:List AQ} (h:BD P num o.op (.n0 x' n6)=true) {f:Nat} {cs:List AV} (hf:ρ x' = .fn false f (num f) cs) {r:AV} {m6:AH} (hr:C.ix f (n6.map ρ++cs) m.own=some (r,m6)):CY B S w0 P o a m (.eb r m6):=by
 obtain ⟨x,xs,ts,k9,mn,he⟩:=mF h;obtain ⟨hl,hx⟩:=WM hs he;obtain ⟨vs,hv,n7⟩:=tM (hf ▸ hs x x' mn) (.inl rfl);have gl:(xs.map a.eval++vs.toArray)=(xs.toList.map a.eval++vs).toArray:=by cases xs;simp
 have fp:=hC.ix f (n6.map ρ++cs) m.own r m6 hr B S w0 m (xs.toList.map a.eval++vs) rfl hm (by simp [hl,n7.1]) (λ j c v hc hv=>by
  by_cases hj:j<n6.length
  ·rw[List.getElem?_append_left (by simpa using hj),List.getElem?_map]at hc
   rw[List.getElem?_append_left (by simpa [hl] using hj),List.getElem?_map]at hv;have Vw:j<xs.toList.length:=by rw[hl];exact hj
   rw[zE hj]at hc;rw[zE Vw]at hv;simp only[Option.map_some,Option.some.injEq]at hc hv;subst hc hv;exact hx j _ _ (zE Vw) (zE hj)
  ·rw[List.getElem?_append_right (by simpa using hj),List.length_map]at hc
   rw[List.getElem?_append_right (by simpa [hl] using hj),List.length_map,hl]at hv;exact .ca (.one (n7.2 _ c v hc hv)))
 intro K Q hK;unfold Oper.wp;rw[Qg k9 hv (hC.pq f _ _ _ hr _ _),gl];refine Calls.mono fp λ e w' ⟨u,m',jr,hw,k8,my,gj,w6⟩ => ?_
 subst jr hw;exact hK u m' k8 my gj w6
theorem Afb {C:Cl} (hC:G1 P num C) (hm:BU B S w0 m) (hs:CW B S m ρ a.eval) {x':AQ} {n6:List AQ} (h:BD P num o.op (.n0 x' n6)=true) {f:Nat} (hf:ρ x' = .fn true f (num f) []) {vs:List AV} {r:AV} (hv:(n6.map ρ).mapM (C6 m.own true)=some vs) (hr:C.pure f vs=some r):CY B S w0 P o a m (.val r):=by
 obtain ⟨x,xs,ts,k9,mn,he⟩:=mF h;obtain ⟨us,hu,n7⟩:=tM (hf ▸ hs x x' mn) (.inr rfl);have hu0:us=[]:=List.eq_nil_of_length_eq_zero (by rw[<-n7.1];rfl);subst hu0;refine uG hC hm hs he (λ w h => ?_) hv hr;have:=Qg (P:=P) (w:=w) k9 hu (by simpa using h)
 simpa using this
theorem Akl {f:Nat} {x:Operand} {xs:Array Operand} {ts:Array TypeId} {u:Value} (k9:o.op = .call ⟨.value x,xs,ts⟩) (hx:a.eval x = .func (.func f) #[u] #[]) {w:World} (h:(callFunc f (#[u]++xs.map a.eval)).run P w = .ok (.enter f (#[u]++xs.map a.eval)) w):(execOp a.eval o).run P w = .ok (.enter f (#[u]++xs.map a.eval)) w:=by
 simp [execOp,k9,resolve,Deferred.ofValue,hx,invoke];exact h
theorem Afa {C:Cl} (hC:G1 P num C) (hm:BU B S w0 m) (hs:CW B S m ρ a.eval) {x':AQ} {n6:List AQ} (h:BD P num o.op (.n0 x' n6)=true) {f:Nat} {c:AV} {cs:List AV} (hf:ρ x' = .fn true f (num f) (c::cs)) {vs:List AV} {r:AV} (hv:(AV.agg (c::cs)::n6.map ρ).mapM (C6 m.own true)=some vs) (hr:C.pure f vs=some r):CY B S w0 P o a m (.val r):=by
 obtain ⟨x,xs,ts,k9,mn,he⟩:=mF h;obtain ⟨us,hu,n7⟩:=AeA (hf ▸ hs x x' mn) (by simp);obtain ⟨hl,hx⟩:=WM hs he;have gl:(#[Value.agg us.toArray]++xs.map a.eval)=(Value.agg us.toArray::xs.toList.map a.eval).toArray:=by cases xs;simp
 refine uH hC hm (us:=Value.agg us.toArray::xs.toList.map a.eval) (as:=AV.agg (c::cs)::n6.map ρ) (by simp [hl]) (λ j v c' h1 h2 => ?_) (λ w h=>by
  rw[<-gl]at h ⊢;exact Akl k9 hu h) hv hr
 cases j with
 | zero =>
  simp only[List.getElem?_cons_zero,Option.some.injEq]at h1 h2;subst h1 h2;exact .ca (.agg _ _ n7)
 | succ j =>
  rw[List.getElem?_cons_succ,List.getElem?_map]at h1 h2;cases lq:xs.toList[j]? with
  | none=>simp [lq]at h1
  | some x =>
   cases pe:n6[j]? with
   | none=>simp [pe]at h2
   | some y =>
    simp only[lq,pe,Option.map_some,Option.some.injEq]at h1 h2;subst h1 h2;exact hx j x y lq pe
theorem Afx (hm:BU B S w0 m) (hs:CW B S m ρ a.eval) {f:Nat} {x':AQ} (h:BD P num o.op (.sd f x')=true) {c:AV} {cs:List AV} (hc:ρ x' = .agg (c::cs)) :
  CY B S w0 P o a m (.val (.fn true f (num f) (c::cs))):=by
 obtain ⟨x,k9,he⟩:=AiE h;obtain ⟨vs,hv,n7⟩:=dK (hc ▸ hs x x' he);refine EF hm (u := .func (.func (num f)) #[.agg vs.toArray] #[]) ?_ (.ca (.ua f (num f) (c::cs) vs (by simp) n7));simp [execOp,k9,Instr.makeFunc,hv]
theorem Rd.to1 {w:World} {R R':Bool->Nat->Prop} (hR : ∀ l b,b<w.heap.size->R l b -> ∀ l',R' l' b) {c:AV} {v:Value} (h:Rd w R c v) (hq:GT c=true):Rd w R' (Y9 c) v:=by
 cases h with
 | int k n=>exact .int k n
 | bool b=>exact .bool b
 | str s=>simp [GT]at hq
 | emp=>simp [GT]at hq
 | jv l a cap=>exact .jv false a cap
 | sl l es b o b9 cap u m5 hp h1 ah hz n7 hr =>
  obtain ⟨e,c,he,ja⟩:=aE m5 hp hz;have hb:b<w.heap.size:=WE (n7 0 e he 0 c ja);exact .sl false es b o b9 cap u m5 hp (hR l b hb h1 false) ah hz n7 λ i e he j c hj=>(hr i e he j c hj).mono (λ l b hb h=>hR l b hb h l) (λ_ _ _ _=>rfl)
theorem Rd.zu {w:World} {R R':Bool->Nat->Prop} (hR : ∀ b,b<w.heap.size->R false b->R' true b) {c:AV} {v:Value} (h:Rd w R c v) (hc:A3 c) (hf:ZG c):Rd w R' (aP c) v:=by
 cases h with
 | int k n=>exact .int k n
 | bool b=>exact .bool b
 | str s=>exact hf.elim
 | emp=>exact hf.elim
 | jv l a cap=>exact .jv true a cap
 | sl l es b o b9 cap u m5 hp h1 ah hz n7 hr =>
  unfold A3 at hc;obtain ⟨rfl,hc⟩:=hc;obtain ⟨e,c,he,ja⟩:=aE m5 hp hz;have hb:b<w.heap.size:=WE (n7 0 e he 0 c ja);refine .sl true es b o b9 cap u m5 hp (hR b hb h1) ah hz n7 λ i e he j c hj => ?_
  have Mq:=hf e (zM he) c (zM hj);have Da:=hr i e he j c hj;generalize u i j=vv at Da ⊢;cases Da<;>first|exact .int _ _|exact .bool _|(simp [zR]at Mq)
theorem mL : ∀ l:List AV,PL l=l.map HT
 | []=>by simp [PL]
 | c::r=>by rw[PL,mL r];rfl
theorem yP : ∀ l:List (List AV),aN l=l.map λ e=>e.map HT
 | []=>by simp [aN]
 | c::r=>by rw[aN,yP r,mL];rfl
theorem Rd.zw {w:World} {R R':Bool->Nat->Prop} (hR : ∀ b,b<w.heap.size->R false b->R' true b) {c:AV} {v:Value} (h:Rd w R c v):A3 c->Rd w R' (HT c) v:=by
 induction h with
 | int k n=>intro _;exact .int k n
 | bool b=>intro _;exact .bool b
 | str s=>intro _;exact .str s
 | emp b a cap h=>intro _;exact .emp b a cap h
 | jv l a cap=>intro _;exact .jv true a cap
 | sl l es b o b9 cap u m5 hp h1 ah hz n7 hr ih =>
  intro hc;unfold A3 at hc;obtain ⟨rfl,hc⟩:=hc;obtain ⟨e,c,he,ja⟩:=aE m5 hp hz;have hb:b<w.heap.size:=WE (n7 0 e he 0 c ja);have ff : ∀ (i:Nat) (e':List AV),(es.map λ e:List AV=>e.map HT)[i]? = some e' -> ∃ e,es[i]? = some e/\e'=e.map HT:=λ i e' h=>by
   rw[List.getElem?_map]at h;cases hi:es[i]? with
   | none=>simp [hi]at h
   | some e=>exact ⟨e,rfl,by simpa [hi] using h.symm⟩
  have px : ∀ (e:List AV) (j:Nat) (c':AV),(e.map HT)[j]? = some c' -> ∃ c,e[j]? = some c/\c'=HT c:=λ e j c' h=>by
   rw[List.getElem?_map]at h;cases hi:e[j]? with
   | none=>simp [hi]at h
   | some c=>exact ⟨c,rfl,by simpa [hi] using h.symm⟩
  have key:=Rd.sl (w:=w) (R:=R') true (es.map λ e:List AV=>e.map HT) b o b9 cap u (by simpa using m5) hp (hR b hb h1) (by simpa using ah)
   (λ e' jr=>by
    obtain ⟨e,he,rfl⟩:=List.mem_map.1 jr;rw[List.length_map];exact hz e he)
   (λ i e' hi j c' hj=>by
    obtain ⟨e,he,rfl⟩:=ff i e' hi;obtain ⟨c,yq,rfl⟩:=px e j c' hj;exact n7 i e he j c yq)
   (λ i e' hi j c' hj=>by
    obtain ⟨e,he,rfl⟩:=ff i e' hi;obtain ⟨c,yq,rfl⟩:=px e j c' hj;exact ih i e he j c yq (S7 (dH hc i e he) j c yq))
  rw[List.length_map]at key;rw[HT,yP];exact key
theorem Afc {C:Cl} (hC:G1 P num C) (hm:BU B S w0 m) (hs:CW B S m ρ a.eval) {f:Nat} {n6:List AQ} (h:BD P num o.op (.m7 f n6)=true) (hq:(n6.map ρ).all dq=true) {r:AV} (hr:C.pure f ((n6.map ρ).map yc)=some r) (Lx:NX r\/XT r):CY B S w0 P o a m (.val (PM r)):=by
 obtain ⟨xs,ts,k9,he⟩:=mE (Aiu h);obtain ⟨hl,hx⟩:=WM hs he;have gl:(xs.map a.eval)=(xs.toList.map a.eval).toArray:=by cases xs;simp
 have hR : ∀ l b,b<m.w.heap.size->safe B S m l b -> ∀ l',safe m.w.heap.size (safe B S m true) ⟨λ_ _=>none,AH.emp,m.w⟩ l' b:=λ l b hb h l' => .inl ⟨oJ h,hb⟩
 have hcell : ∀ (c:AV) (v:Value),CC B S m c v->GT c=true->Rd m.w (safe m.w.heap.size (safe B S m true) ⟨λ_ _=>none,AH.emp,m.w⟩) (Y9 c) v:=λ c v hc hd=>by
  cases hc with
  | rd hr=>exact hr.to1 hR hd
  | nil=>exact .jv false none 0
  | row=>simp [GT]at hd
  | ptr=>simp [GT]at hd
  | u5=>simp [GT]at hd
 have lj : ∀ (j:Nat) (c:AV) (v:Value),((n6.map ρ).map yc)[j]? = some c->(xs.toList.map a.eval)[j]? = some v->CA m.w.heap.size (safe B S m true) ⟨λ_ _=>none,AH.emp,m.w⟩ c v:=by
  intro j c v hc uk;rw[List.getElem?_map,List.getElem?_map]at hc;rw[List.getElem?_map]at uk;cases lq:xs.toList[j]? with
  | none=>simp [lq]at uk
  | some x =>
   cases pe:n6[j]? with
   | none=>simp [pe]at hc
   | some y =>
    simp [lq]at uk;simp [pe]at hc;subst uk hc;have w6:=hx j x y lq pe;have hd:dq (ρ y)=true:=List.all_eq_true.1 hq _ (List.mem_map_of_mem (zM pe));generalize ρ y=cy at w6 hd ⊢;generalize a.eval x=vx at w6 ⊢;cases w6 with
    | any=>simp [dq,GT]at hd
    | j5=>simp [dq,GT]at hd
    | ca mw =>
     cases mw with
     | one Ak =>
      have ov:GT cy=true/\yc cy=Y9 cy:=by
       cases Ak with
       | rd hr=>cases hr<;>exact ⟨hd,rfl⟩
       | _=>exact ⟨hd,rfl⟩
      rw[ov.2];exact .one (.rd (hcell _ _ Ak ov.1))
     | agg cs vs n7 =>
      refine .agg (cs.map Y9) vs ⟨by simpa using n7.1,λ k c' v' w8 pd => ?_⟩;rw[List.getElem?_map]at w8;cases qe:cs[k]? with
      | none=>simp [qe]at w8
      | some c0 =>
       simp [qe]at w8;subst w8;exact .rd (hcell c0 v' (n7.2 k c0 v' qe pd) (List.all_eq_true.1 hd _ (zM qe)))
     | fn=>simp [dq,GT]at hd
     | ua=>simp [dq,GT]at hd
 have fp:=hC.pure f _ r hr (safe B S m true) m.w (xs.toList.map a.eval) (by simp [hl]) lj;intro K Q hK;unfold Oper.wp;rw[gK k9 (hC.uz f _ r hr _ _),gl];refine Calls.mono fp λ e w' ⟨u,jr,jq,w6,n7⟩ => ?_
 subst jr;obtain ⟨my,gj⟩:=grow hm jq;refine hK u ⟨m.ν,m.own,w'⟩ rfl my gj ?_;have jn : ∀ b,b<w'.heap.size->safe m.w.heap.size (safe B S m true) ⟨λ_ _=>none,AH.emp,w'⟩ false b->safe B S ⟨m.ν,m.own,w'⟩ true b:=λ b hb zi=>by
  rcases zi with ⟨h1,h2⟩|⟨h1,_⟩|⟨h1,_⟩
  ·exact gj.Bh true b h2 h1
  ·refine .inr (.inl ⟨Nat.le_trans hm.size h1,λ s t km hg => ?_⟩)
   obtain ⟨b',l7⟩:=Option.isSome_iff_exists.1 km;obtain ⟨_,arr,e,hh⟩:=hm.ge ⟨b',l7⟩ hg;have:=(Array.getElem?_eq_some_iff.1 hh).1
   omega
  ·cases h1
 by_cases eg:NX r
 ·rw[mM eg]
  rcases jV w6 n7 with uc|⟨cs,vs,rfl,_⟩
  ·rcases uc with na|⟨cs,vs,rfl,rfl,gk,hh⟩
   ·have e1:zn r=aP r/\ZG r:=by cases na<;>exact ⟨rfl,eg⟩
    rw[show CE.valOf (.val (zn r)) m.own=zn r from rfl,e1.1];exact .ca (.one (.rd (na.zu jn n7 e1.2)))
   ·unfold A3 at n7
    refine .ca (.agg (cs.map aP) vs ⟨by simpa using gk,λ k c' v' w8 pd => ?_⟩);rw[List.getElem?_map]at w8;cases qe:cs[k]? with
    | none=>simp [qe]at w8
    | some c0 =>
     simp [qe]at w8;subst w8;exact .rd ((hh k c0 v' qe pd).zu jn (S7 n7 k c0 qe) (eg c0 (zM qe)))
  ·exact eg.elim
 ·rw[yQ eg]
  have hd:=Lx.resolve_left eg;rcases jV w6 n7 with uc|⟨cs,vs,rfl,_⟩
  ·rcases uc with na|⟨cs,vs,rfl,rfl,gk,hh⟩
   ·have e1:TE r=HT r:=by cases na<;>rfl
    rw[show CE.valOf (.val (TE r)) m.own=TE r from rfl,e1];exact .ca (.one (.rd (na.zw jn n7)))
   ·unfold A3 at n7
    rw[show CE.valOf (.val (TE (.agg cs))) m.own = .agg (PL cs) from rfl,mL];refine .ca (.agg (cs.map HT) vs ⟨by simpa using gk,λ k c' v' w8 pd => ?_⟩);rw[List.getElem?_map]at w8;cases qe:cs[k]? with
    | none=>simp [qe]at w8
    | some c0 =>
     simp [qe]at w8;subst w8;exact .rd ((hh k c0 v' qe pd).zw jn (S7 n7 k c0 qe))
  ·exact hd.elim
end
end Go.c9

namespace Go.c9
open Go.RowKit
section
variable {B:Nat} {S:Nat->Prop} {w0:World} {m:M}
variable {P:Program} {num:Nat->Nat} {o:Oper} {a:Act} {ρ:AQ->AV} {C:Cl} {c7:List Nat}
theorem AfA (hm:BU B S w0 m) (hs:CW B S m ρ a.eval) {mx:Bool} {n6:List AQ} (h:BD P num o.op (.mm mx n6)=true) {v r:AV} {l:List AV} (hx:n6.map ρ=v::l) (hv:OL mx v l=some r):CY B S w0 P o a m (.val r):=by
 by_cases hi : ∃ k n,v = .int k n
 ·exact Afz hm hs h hx hv hi
 ·cases l with
  | cons u q =>
   simp only[OL]at hv;exfalso;cases v<;>first|(exact hi ⟨_,_,rfl⟩)|(simp [UI]at hv)
  | nil =>
   simp only[OL,Option.some.injEq]at hv;subst hv;obtain ⟨xs,ts,k9,he⟩:=xZ h;cases n6 with
   | nil=>simp at hx
   | cons y yr =>
    simp only[List.map_cons,List.cons.injEq,List.map_eq_nil_iff]at hx;obtain ⟨rfl,rfl⟩:=hx;obtain ⟨xl⟩:=xs;cases xl with
    | nil=>simp [EG]at he
    | cons x xr =>
     simp only[EG,Bool.and_eq_true]at he;cases xr with
     | cons=>simp [EG]at he
     | nil =>
      refine EF hm (u:=a.eval x) ?_ (hs x y he.1);cases mx<;>simp [execOp,k9,resolve,invoke,builtin,Builtin.min_,Builtin.max_]
theorem xF (o:AH) (l:List Nat) (s t:Nat) (b:EC) (h:(o.m8 l).get s t=some b):o.get s t=some b:=by
 induction l with
 | nil=>exact h
 | cons x r ih =>
  unfold AH.get AH.m8 at h;by_cases hs:s=x
  ·simp [hs]at h
  ·simp only[if_neg hs]at h
   exact ih h
theorem AiT {o:AH} {l:List Nat} {s t i j n:Nat} {cs:List AV} (h:(o.m8 l).qm s t i j n=some cs):o.qm s t i j n=some cs:=by
 unfold AH.qm at *;cases hg:(o.m8 l).get s t with
 | none=>simp [hg]at h
 | some b =>
  rw[xF o l s t b hg];simpa [hg] using h
theorem Af3 {o:AH} {l:List Nat} {v:AV} {es:List (List AV)} (h:ES (o.m8 l) v=some es):ES o v=some es:=by
 cases v with
 | dh v=>cases v<;>exact h
 | row s t z off len =>
  simp only[ES]at h ⊢;cases hg:(o.m8 l).get s t with
  | none=>simp [hg]at h
  | some b =>
   rw[xF o l s t b hg];simpa [hg] using h
 | _=>exact h
theorem YS {α β:Type} {f g:α->Option β} (Vl : ∀ x y,f x=some y->g x=some y) : ∀ {l:List α} {l':List β},l.mapM f=some l'->l.mapM g=some l'
 | [],l',h=>by simpa using h
 | x::r,l',h=>by
  simp only[List.mapM_cons,Option.bind_eq_bind,Option.pure_def]at h ⊢;cases hx:f x with
  | none=>simp [hx]at h
  | some y =>
   cases hr:r.mapM f with
   | none=>simp [hx,hr]at h
   | some r' =>
    simp [hx,hr]at h;simp [Vl x y hx,YS Vl hr,h]
theorem pC (o:AH) (l:List Nat) (b:Bool) : ∀ (d:Nat) (c c':AV),snap (o.m8 l) b d c=some c'->snap o b d c=some c'
 | 0,c,c',h=>by cases c<;>simp_all [snap]
 | d+1,c,c',h=>by
  cases c<;>first|(simp_all [snap];done)|skip
  rename_i s t z off len;simp only[snap]at h ⊢;cases he:ES (o.m8 l) (.row s t z off len) with
  | none=>simp [he]at h
  | some es =>
   simp only[he]at h;rw[Af3 he];simp only[Option.map_eq_some_iff]at h ⊢;obtain ⟨es',h1,h2⟩:=h;exact ⟨es',YS (λ x y hx=>YS (pC o l b d) hx) h1,h2⟩
theorem Sx (o:AH) (l:List Nat) (b:Bool) (c c':AV) (h:C6 (o.m8 l) b c=some c'):C6 o b c=some c':=by
 cases c<;>first|exact pC o l b 6 _ _ h|skip
 simp only[C6,Option.map_eq_some_iff]at h ⊢;obtain ⟨cs,h1,h2⟩:=h;exact ⟨cs,YS (pC o l b 6) h1,h2⟩
theorem AkJ (o:AH) (l:List Nat) (b:Bool) (c c':AV) (h:TL (o.m8 l) b c=some c'):TL o b c=some c':=by
 rcases Classical.em (c = .nil) with rfl|hc
 ·exact h
 ·have e : ∀ o:AH,TL o b c=C6 o b c:=λ o=>by cases c<;>first|rfl|exact (hc rfl).elim
  rw[e]at h ⊢;exact Sx o l b _ _ h
theorem Ai6 {o:AH} {l:List Nat} {b:Bool} {xs vs:List AV} (h:xs.mapM (TL (o.m8 l) b)=some vs):xs.mapM (TL o b)=some vs:=YS (AkJ o l b) h
theorem Ai4 {o:AH} {l:List Nat} {b:Bool} {xs vs:List AV} (h:xs.mapM (C6 (o.m8 l) b)=some vs):xs.mapM (C6 o b)=some vs:=YS (Sx o l b) h
theorem AkY {own m6:AH} {s t i j:Nat} {vs:List AV} (h:own.mq s t i j vs=some m6):own.put s (m6 s)=m6:=by
 unfold AH.mq at h;cases hg:own.get s t with
 | none=>simp [hg]at h
 | some b =>
  simp only[hg]at h;cases he:b.es[i]? with
  | none=>simp [he]at h
  | some cs =>
   simp only[he]at h;split at h
   ·obtain rfl:=Option.some.inj h
    rw[AH.j9]
   ·cases h
theorem Af1 (hC:G1 P num C) (hm:BU B S w0 m) (hs:CW B S m ρ a.eval) {Dj:D6} (j6:BD P num o.op Dj=true) {E:CE} (h:g8 C c7 ρ m.own Dj=some E):CY B S w0 P o a m E:=by
 cases Dj with
 | b7 x=>simp only[g8,Option.some.injEq]at h;subst h;exact AfD hm hs j6
 | w4 s z=>simp only[g8,Option.some.injEq]at h;subst h;exact AfJ hm j6
 | pick c x y =>
  simp only[g8]at h;split at h
  ·rename_i hc;simp only[Option.some.injEq]at h;subst h;exact uF hm hs j6 hc
  ·rename_i hc;simp only[Option.some.injEq]at h;subst h;exact uF hm hs j6 hc
  ·cases h
 | bin f x y =>
  simp only[g8]at h;split at h
  ·rename_i k n k' n' hx hy
   simp only[Option.map_eq_some_iff]at h;obtain ⟨v,hv,rfl⟩:=h;exact Ae5 hm hs j6 hx hy hv
  ·cases h
 | sf ne n x y =>
  simp only[g8]at h;split at h
  ·rename_i cs ds hx hy
   split at h
   ·rename_i a b ha hb
    split at h
    ·rename_i hn
     simp only[Option.some.injEq]at h;subst h;exact AeZ hm hs j6 hx hy ha hb hn
    ·cases h
   ·cases h
  ·cases h
 | beq ne x y =>
  simp only[g8]at h;split at h
  ·rename_i b b' hx hy
   simp only[Option.some.injEq]at h;subst h;exact Ae4 hm hs j6 hx hy
  ·cases h
 | un f x =>
  simp only[g8,Option.map_eq_some_iff]at h;obtain ⟨v,hv,rfl⟩:=h;exact AfI hm hs j6 hv
 | conv k x =>
  simp only[g8]at h;split at h
  ·rename_i k' n hx
   simp only[Option.some.injEq]at h;subst h;exact Afg hm hs j6 hx
  ·cases h
 | box s x =>
  simp only[g8]at h;split at h
  ·rename_i cs jb
   simp only[Option.some.injEq]at h;subst h;exact Ae6 hm hs j6 jb
  ·cases h
 | alloc s z=>simp only[g8,Option.some.injEq]at h;subst h;exact Ae0 hm j6
 | build z ps =>
  simp only[g8,Option.map_eq_some_iff]at h;obtain ⟨cs,jb,rfl⟩:=h;exact Ae8 hm hs j6 jb
 | e9 s b9 ps =>
  simp only[g8]at h;split at h
  ·rename_i es js
   split at h
   ·rename_i hz
    simp only[Option.some.injEq]at h;subst h;exact Ae7 hm hs j6 js hz
   ·cases h
  ·cases h
 | a7 x off =>
  simp only[g8]at h;split at h
  ·rename_i s t i j hx
   simp only[Option.some.injEq]at h;subst h;exact Afj hm hs j6 hx
  ·rename_i cs hx
   simp only[Option.some.injEq]at h;subst h;exact Afi hm hs j6 hx
  ·cases h
 | om x off n agg =>
  simp only[g8]at h;split at h
  ·rename_i cs hx
   split at h
   ·rename_i ds hp
    simp only[Option.map_eq_some_iff]at h;obtain ⟨v,hv,rfl⟩:=h;exact Afk hm hs j6 hx hp hv
   ·cases h
  ·cases h
 | a5 arr b9 x i =>
  simp only[g8]at h;split at h
  ·rename_i k n hi
   split at h
   ·rename_i len s t i' j hx
    split at h
    ·rename_i hn
     simp only[Option.some.injEq]at h;subst h;exact Afq hm hs j6 hi hx hn.1 hn.2
    ·cases h
   ·rename_i len cs hx
    split at h
    ·rename_i hn
     simp only[Option.some.injEq]at h;subst h;exact Afr hm hs j6 hi hx hn.1 hn.2
    ·cases h
   ·rename_i s t z off len hx
    split at h
    ·rename_i hn
     simp only[Option.some.injEq]at h;subst h;exact Afs hm hs j6 hi hx hn.1 hn.2.1 hn.2.2
    ·cases h
   ·rename_i l es hx
    split at h
    ·rename_i h0
     split at h
     ·rename_i cs jb
      split at h
      ·rename_i hz
       simp only[Option.some.injEq]at h;subst h;exact Aft hm hs j6 hi hx h0 jb hz
      ·cases h
     ·cases h
    ·cases h
   ·cases h
  ·cases h
 | ld agg n x =>
  simp only[g8]at h;split at h
  ·rename_i s t i j hx
   split at h
   ·rename_i cs jb
    simp only[Option.map_eq_some_iff]at h;obtain ⟨v,hv,rfl⟩:=h;exact Afu hm hs j6 hx (AiT jb) hv
   ·cases h
  ·rename_i cs hx
   split at h
   ·rename_i ds hp
    simp only[Option.map_eq_some_iff]at h;obtain ⟨v,hv,rfl⟩:=h;exact uE hm hs j6 hx hp hv
   ·cases h
  ·cases h
 | uq agg n x =>
  simp only[g8]at h;split at h
  ·rename_i cs hx
   split at h
   ·rename_i ds hp
    simp only[Option.map_eq_some_iff]at h;obtain ⟨v,hv,rfl⟩:=h;exact uE hm hs (show BD P num _ (.ld agg n x)=true from j6) hx hp hv
   ·cases h
  ·cases h
 | st n x v =>
  simp only[g8]at h;split at h
  ·rename_i s t i j vs hx il
   split at h
   ·rename_i hn
    simp only[Option.map_eq_some_iff]at h;obtain ⟨m6,ho,rfl⟩:=h;exact uJ hm hs j6 hx il hn ho
   ·cases h
  ·cases h
 | mk s b9 bytes zero l c =>
  simp only[g8]at h;split at h
  ·rename_i kl a' kc b' hl hc
   split at h
   ·rename_i hn
    simp only[Option.some.injEq]at h;subst h;exact Afw hm hs j6 hl hc hn.1 hn.2.1 hn.2.2.1 hn.2.2.2.1 hn.2.2.2.2
   ·cases h
  ·cases h
 | fx b9 x lo hi =>
  simp only[g8]at h;have Uf : ∀ (d:Nat) (y:Option AQ) (q:Nat),(match y with|none=>some d|some o=>match ρ o with | .int _ n=>if 0<=n/\n<=d then some n.toNat else none|_=>none)=some q -> ∃ n:Int,HN ρ d y=some n/\0<=n/\n<=d/\q=n.toNat:=λ d y q hq=>by
   cases y with
   | none=>simp only[Option.some.injEq]at hq;subst hq;exact ⟨d,rfl,by omega,by omega,by simp⟩
   | some y =>
    simp only at hq;cases hy:ρ y with
    | int k n =>
     simp only[hy]at hq;split at hq
     ·rename_i hn
      simp only[Option.some.injEq]at hq;subst hq;exact ⟨n,by simp [HN,hy],hn.1,hn.2,rfl⟩
     ·cases hq
    | _=>simp [hy]at hq
  have Et : ∀ (y:Option AQ) (q:Nat),(match y with|none=>some 0|some o=>match ρ o with | .int _ n=>if 0<=n then some n.toNat else none|_=>none)=some q -> ∃ n:Int,HN ρ 0 y=some n/\0<=n/\q=n.toNat:=λ y q hq=>by
   cases y with
   | none=>simp only[Option.some.injEq]at hq;subst hq;exact ⟨0,rfl,by omega,by simp⟩
   | some y =>
    simp only at hq;cases hy:ρ y with
    | int k n =>
     simp only[hy]at hq;split at hq
     ·rename_i hn
      simp only[Option.some.injEq]at hq;subst hq;exact ⟨n,by simp [HN,hy],hn,rfl⟩
     ·cases hq
    | _=>simp [hy]at hq
  have Eu : ∀ (y:Option AQ) (q:Nat),(match y with|none=>some 0|some o=>match ρ o with | .int _ n=>if n=0 then some 0 else none|_=>none)=some q->HN ρ 0 y=some 0:=λ y q hq=>by
   cases y with
   | none=>rfl
   | some y =>
    simp only at hq;cases hy:ρ y with
    | int k n =>
     simp only[hy]at hq;split at hq
     ·rename_i hn
      subst hn;simp [HN,hy]
     ·cases hq
    | _=>simp [hy]at hq
  split at h
  ·rename_i l es hx
   split at h
   ·rename_i q1 q2 h1 h2
    split at h
    ·rename_i hq
     simp only[Option.some.injEq]at h;subst h;obtain ⟨n1,b1,c1,rfl⟩:=Et _ _ h1;obtain ⟨n2,b2,c2,c3,rfl⟩:=Uf _ _ _ h2;exact AfH hm hs j6 hx b1 b2 c1 (by omega) c3 hq.2
    ·cases h
   ·cases h
  ·rename_i hx
   split at h
   ·rename_i q1 q2 h1 h2
    simp only[Option.some.injEq]at h;subst h;exact AfF hm hs j6 hx (Eu _ _ h1) (Eu _ _ h2)
   ·cases h
  ·rename_i s t z off len hx
   split at h
   ·rename_i q1 q2 h1 h2
    split at h
    ·rename_i hq
     simp only[Option.some.injEq]at h;subst h;obtain ⟨n1,b1,c1,rfl⟩:=Et _ _ h1;obtain ⟨n2,b2,c2,c3,rfl⟩:=Uf _ _ _ h2;exact AfG hm hs j6 hx b1 b2 c1 (by omega) c3 hq.2
    ·cases h
   ·cases h
  ·cases h
 | ext x i =>
  simp only[g8]at h;split at h
  ·rename_i vs hx
   simp only[Option.map_eq_some_iff]at h;obtain ⟨v,hv,rfl⟩:=h;exact Afh hm hs j6 hx hv
  ·cases h
 | len x =>
  simp only[g8]at h;split at h
  ·rename_i n hn
   simp only[Option.some.injEq]at h;subst h;exact Afv hm hs j6 hn
  ·cases h
 | mm mx xs =>
  simp only[g8]at h;split at h
  ·cases h
  ·rename_i v r hx
   simp only[Option.map_eq_some_iff]at h;obtain ⟨q,hq,rfl⟩:=h;exact AfA hm hs j6 hx hq
 | app s b9 bytes x y =>
  simp only[g8]at h;split at h
  ·rename_i ys wq
   split at h
   ·rename_i hz
    split at h
    ·rename_i s' t z len hx
     split at h
     ·rename_i b hb
      split at h
      ·rename_i hn
       obtain ⟨n1,rfl,n3,n4,n5⟩:=hn;simp only[Option.some.injEq]at h;subst h;exact Ae2 hm hs j6 wq hz hx hb n1 n3 n4 n5
      ·cases h
     ·cases h
    ·rename_i hx
     split at h
     ·rename_i hn
      simp only[Option.some.injEq]at h;subst h;exact Ae1 hm hs j6 wq hz hx hn.1 hn.2
     ·cases h
    ·cases h
   ·cases h
  ·cases h
 | call f xs =>
  simp only[g8]at h;split at h
  ·rename_i vs il
   simp only[Option.map_eq_some_iff]at h;obtain ⟨r,hr,rfl⟩:=h;exact Ae9 hC hm hs j6 (Ai4 il) hr
  ·cases h
 | g9 f xs =>
  simp only[g8,Option.map_eq_some_iff]at h;obtain ⟨r,hr,rfl⟩:=h;exact uC hC hm hs j6 hr
 | tu ne x =>
  simp only[g8]at h;split at h
  ·rename_i hx
   simp only[Option.some.injEq]at h;subst h;exact dT hm hs j6 (b:=true) λ v hv=>by rw[hx]at hv;exact ⟨none,0,0,U8 hv,rfl⟩
  ·rename_i b hx
   simp only[Option.some.injEq]at h;subst h;exact dT hm hs j6 (b:=b) λ v hv=>by
    rw[hx]at hv;obtain ⟨ad,c,h1,h2⟩:=tL hv;exact ⟨ad,0,c,h1,h2⟩
  ·rename_i hx
   simp only[Option.some.injEq]at h;subst h;exact dT hm hs j6 (b:=false) λ v hv=>by rw[hx]at hv;exact AeD hv
  ·rename_i hx
   simp only[Option.some.injEq]at h;subst h;exact dT hm hs j6 (b:=false) λ v hv=>by rw[hx]at hv;exact AeC hv
  ·cases h
 | bad =>
  have h:(none:Option CE)=some E:=h;cases h
 | fm x =>
  simp only[g8]at h;split at h
  ·rename_i hx
   simp only[Option.some.injEq]at h;subst h;exact Aff hm hs j6 hx
  ·cases h
 | cu s f xs =>
  simp only[g8,Option.map_eq_some_iff]at h;obtain ⟨p,hp,rfl⟩:=h;exact uC hC hm hs (Aiw j6) (dD.1 hp m.own rfl)
 | oi s b9 bytes x y =>
  simp only[g8]at h;split at h
  ·rename_i k n hx hy
   split at h
   ·rename_i hn
    simp only[Option.some.injEq]at h;subst h;exact Ae3 hm hs j6 hx hy hn.1 hn.2.1 hn.2.2
   ·cases h
  ·cases h
 | gv tb x =>
  simp only[g8]at h;split at h
  ·rename_i k n hx
   split at h
   ·rename_i h0
    split at h
    ·rename_i v hv
     simp only[Option.some.injEq]at h;subst h;exact AfE hm hs j6 hx h0 hv
    ·cases h
   ·cases h
  ·cases h
 | qo p f xs =>
  simp only[g8,Option.map_eq_some_iff]at h;obtain ⟨cs,jb,rfl⟩:=h;rw[hC.num];exact Afy hm hs j6 jb
 | sd f x =>
  simp only[g8]at h;split at h
  ·rename_i c cs hx
   simp only[Option.some.injEq]at h;subst h;rw[hC.num];exact Afx hm hs j6 hx
  ·cases h
 | m7 f xs =>
  simp only[g8]at h;split at h
  ·rename_i hq
   split at h
   ·rename_i r hr
    split at h
    ·rename_i eg
     simp only[Option.some.injEq]at h;subst h;exact Afc hC hm hs j6 hq hr eg
    ·cases h
   ·cases h
  ·cases h
 | u6 s f xs =>
  simp only[g8]at h;split at h
  ·rename_i vs il
   simp only[Option.map_eq_some_iff]at h;obtain ⟨⟨z,es⟩,hr,rfl⟩:=h;exact Afd hC hm hs j6 (Ai6 il) hr
  ·cases h
 | oh s n x v =>
  simp only[g8]at h;split at h
  ·rename_i s' t i j vs hx il
   split at h
   ·rename_i hn
    obtain ⟨rfl,hn⟩:=hn;simp only[Option.map_eq_some_iff]at h;obtain ⟨m6,ho,rfl⟩:=h;have:=uJ hm hs (AiK j6) hx il hn ho
    intro K Q hK;refine this K Q λ u m' h1 h2 h3 h4=>hK u m' ?_ h2 h3 h4
    rw[h1];exact (AkY ho).symm
   ·cases h
  ·cases h
 | n0 x xs =>
  simp only[g8]at h;split at h
  ·rename_i p f g cs hx
   split at h
   ·rename_i hg
    rw[hC.num]at hg;subst hg;split at h
    ·split at h
     ·rename_i vs il
      simp only[Option.map_eq_some_iff]at h;obtain ⟨r,hr,rfl⟩:=h;exact Afb hC hm hs j6 hx il hr
     ·cases h
    ·simp only[Option.map_eq_some_iff]at h
     obtain ⟨r,hr,rfl⟩:=h;exact Afe hC hm hs j6 hx hr
    ·split at h
     ·rename_i vs il
      simp only[Option.map_eq_some_iff]at h;obtain ⟨r,hr,rfl⟩:=h;exact Afa hC hm hs j6 hx il hr
     ·cases h
   ·cases h
  ·cases h
end
end Go.c9

namespace Go.c9
open Go.RowKit
def EP (T:Nat->AV):AQ->AV
 | .t n=>T n
 | .c v=>v
def JY (T:Nat->AV) (d:Option Nat) (v:AV):Nat->AV:=λ j=>if d=some j then v else T j
def O7 (T:Nat->AV):Option (Nat × Bool)->Option Bool
 | none=>some true
 | some (g,want)=>match T g with
  | .bool b=>some (b == want)
  | .j5 []=>some false
  | _=>none
theorem vI (st:St):st.ev=EP (j4 st.tm):=by funext x;cases x<;>rfl
theorem AhN (st:St) (g:Option (Nat × Bool)):FN st g=O7 (j4 st.tm) g:=rfl
theorem uS (st:St) (d:Option Nat) (v:AV):j4 (st.dst d v).tm=JY (j4 st.tm) d v:=by
 cases d with
 | none=>funext j;simp [St.dst,JY]
 | some d =>
  funext j
  simp only[St.dst,JY,bV];by_cases h:j=d
  ·simp [h]
  ·simp [h,Ne.symm h]
theorem AdC (st:St) (d:Option Nat) (E:CE):j4 (st.app d E).tm=JY (j4 st.tm) d (E.valOf st.own):=by
 cases E<;>simp only[St.app,CE.valOf]<;>exact uS st d _
theorem uT (st:St) (d:Option Nat) (v:AV):(st.dst d v).own=st.own:=by cases d<;>rfl
theorem AdB (st:St) (d:Option Nat) (E:CE):(st.app d E).own=E.z7 st.own:=by
 cases E with
 | val v=>simp only[St.app,CE.z7];exact uT st d v
 | _=>rfl
section
variable {B:Nat} {S:Nat->Prop} {w0:World} {m0:M} {N:Nat}
variable {P:Program} {num:Nat->Nat} {C:Cl} {Q:Exit->Act->World->Prop}
structure FQ (B:Nat) (S:Nat->Prop) (w0:World) (m0:M) (N:Nat) (T:Nat->AV) (m:M) (a:Act):Prop where
 mem:BU B S w0 m
 ext:DL B S m0 m
 tm : ∀ i,CV B S m (T i) (a.tmps.getD i undef)
 size:a.tmps.size=N
 defers:a.defers=[]
theorem FQ.put {T:Nat->AV} {m m':M} {a:Act} (h:FQ B S w0 m0 N T m a) (d:Option Nat) (hd : ∀ k,d=some k->k<N) {v:AV} {u:Value} (hm:BU B S w0 m') (he:DL B S m m') (hc:CV B S m' v u):FQ B S w0 m0 N (JY T d v) m' (a.put d u):=by
 refine ⟨hm,h.ext.trans he,λ i => ?_,?_,?_⟩
 ·cases d with
  | none=>simpa [JY,Act.put] using he.cv (h.tm i)
  | some k =>
   have hk:k<a.tmps.size:=by rw[h.size];exact hd k rfl
   by_cases nn:i=k
   ·subst nn
    simp only[JY,if_true,Act.put];simpa [Array.getD,hk] using hc
   ·have m5 : ¬ (some k=some i):=λ e=>nn (by simpa using e.symm)
    simp only[JY,if_neg m5,Act.put];have:(a.tmps.setIfInBounds k u).getD i undef=a.tmps.getD i undef:=by
     simp [Array.getElem?_setIfInBounds_ne (Ne.symm nn)]
    rw[this];exact he.cv (h.tm i)
 ·cases d<;>simp [Act.put,h.size]
 ·cases d<;>simpa [Act.put] using h.defers
theorem FQ.says {T:Nat->AV} {m:M} {a:Act} (h:FQ B S w0 m0 N T m a):CW B S m (EP T) a.eval:=Akr (λ_=>rfl) (λ_=>rfl) h.tm
theorem All {T:Nat->AV} {m:M} {a:Act} (h:FQ B S w0 m0 N T m a) {ops:Array Oper} {o:Oper} {g':Option (Nat × Bool)} (hg:aS ops o.guard g'=true) {g:Bool} (te:O7 T g'=some g):Region.wanted o (yielded ops a.tmps)=g:=by
 unfold Region.wanted;cases Mu:o.guard with
 | none =>
  cases g' with
  | none=>simp [O7]at te;simp [te]
  | some _=>simp [aS,Mu]at hg
 | some jw =>
  obtain ⟨j,want⟩:=jw;cases g' with
  | none=>simp [aS,Mu]at hg
  | some tw =>
   obtain ⟨t,Xv⟩:=tw;simp only[aS,Mu,Bool.and_eq_true,beq_iff_eq]at hg;obtain ⟨rfl,hg⟩:=hg;split at hg
   ·rename_i oj Jd
    have Lr:oj.dst=some t:=by simpa using hg
    have w6:=h.tm t;simp only[O7]at te;unfold yielded;simp only[Jd,Option.bind_some,Lr];split at te
    ·rename_i b hb
     rw[hb]at w6;have hv:=WH w6;have n8:a.tmps[t]? = some (.bool b):=by
      cases ht:a.tmps[t]? with
      | none=>simp [ht,undef]at hv
      | some x=>simp [ht]at hv;rw[hv]
     simp only[n8];simp at te;rw[<-te];cases b<;>cases want<;>rfl
    ·rename_i hb
     rw[hb]at w6;obtain ⟨vs,hv,hl,_⟩:=jW w6;have:vs=[]:=List.eq_nil_of_length_eq_zero (by simpa using hl.symm)
     subst this;simp at te;subst te;cases ht:a.tmps[t]? with
     | none=>rfl
     | some x =>
      simp [ht]at hv;subst hv;rfl
    ·cases te
   ·cases hg
theorem Ss (hC:G1 P num C) {ops:Array Oper} {i:Nat} {o:Oper} {ai:AI} (hi:ops[i]? = some o) (j6:fK P num N ops o ai=true) {T:Nat->AV} {m:M} {a:Act} (hf:FQ B S w0 m0 N T m a) {g:Bool} (hg:O7 T ai.guard=some g) {E:CE}
  (hE:g=true->g8 C ai.c7 (EP T) m.own ai.op=some E) {K:Act->World->Prop} (hK : ∀ m' a',m'.own=(if g then E.z7 m.own else m.own)->FQ B S w0 m0 N (JY T ai.dst (if g then E.valOf m.own else .j5 [])) m' a'->K a' m'.w):wpOp P ops Q i K a m.w:=by
 simp only[fK,Bool.and_eq_true,beq_iff_eq]at j6;obtain ⟨⟨⟨h1,h2⟩,h3⟩,h4⟩:=j6;have hd : ∀ k,o.dst=some k->k<N:=λ k hk=>by
  rw[h1]at hk;rw[hk]at h2;simpa using h2
 unfold wpOp;simp only[hi,All hf h3 hg];cases g with
 | true =>
  simp only[if_true];refine .inl (Af1 hC hf.mem hf.says h4 (hE rfl) K Q λ u m' k8 my gj w6 => ?_);refine hK m' _ (by simpa using k8) ?_;rw[<-h1];exact hf.put o.dst hd my gj w6
 | false =>
  simp only[Bool.false_eq_true,if_false];refine hK m _ (by simp) ?_;rw[<-h1];exact hf.put o.dst hd hf.mem (DL.refl m) yW
theorem Th {o:AI} {st k7:St} (h:C7 C o st=some k7) : ∃ g E,O7 (j4 st.tm) o.guard=some g/\(g=true->g8 C o.c7 (EP (j4 st.tm)) st.own o.op=some E)/\j4 k7.tm=JY (j4 st.tm) o.dst (if g then E.valOf st.own else .j5 [])/\k7.own=(if g then E.z7 st.own else st.own):=by
 unfold C7 at h;rw[AhN]at h;cases hg:O7 (j4 st.tm) o.guard with
 | none=>simp [hg]at h
 | some g =>
  cases g with
  | true =>
   simp only[hg,Option.map_eq_some_iff]at h;obtain ⟨E,hE,rfl⟩:=h;rw[vI]at hE;exact ⟨true,E,rfl,λ_=>hE,AdC st o.dst E,AdB st o.dst E⟩
  | false =>
   simp only[hg,Option.some.injEq]at h;subst h;exact ⟨false,.val .any,rfl,λ h=>(by cases h),uS st o.dst _,uT st o.dst _⟩
theorem aT {ops:Array Oper} : ∀ {os:List Oper} {l:List AI},UM P num N ops os l=true->os.length=l.length /\ ∀ (i:Nat) (o:Oper) (x:AI),os[i]? = some o->l[i]? = some x->fK P num N ops o x=true
 | [],[],_=>⟨rfl,λ i o x h=>by simp at h⟩
 | o::r,x::l,h=>by
  simp only[UM,Bool.and_eq_true]at h;obtain ⟨h1,h2⟩:=aT h.2;refine ⟨by simp [h1],λ i o' x' ho hx => ?_⟩;cases i with
  | zero=>simp at ho hx;subst ho hx;exact h.1
  | succ i=>exact h2 i o' x' (by simpa using ho) (by simpa using hx)
 | [],_::_,h=>by simp [UM]at h
 | _::_,[],h=>by simp [UM]at h
theorem Su (hC:G1 P num C) {ops:Array Oper} {l:List AI} (j6:UM P num N ops ops.toList l=true) : ∀ (n k:Nat) (st k7:St) (m:M) (a:Act),n+k=ops.size->DD C (l.drop k) st=some k7->m.own=st.own->FQ B S w0 m0 N (j4 st.tm) m a ->
  (∀ m' a',m'.own=k7.own->FQ B S w0 m0 N (j4 k7.tm) m' a'->Q .normal a' m'.w)->wpOps P ops Q (List.range' k n) a m.w
 | 0,k,st,k7,m,a,hk,hs,k8,hf,hQ=>by
  have hl:=(aT j6).1;simp at hl;rw[List.drop_eq_nil_of_le (by omega)]at hs;simp only[DD,Option.some.injEq]at hs;subst hs;simpa [wpOps] using hQ m a k8 hf
 | n+1,k,st,k7,m,a,hk,hs,k8,hf,hQ=>by
  obtain ⟨hl,hg⟩:=aT j6;simp at hl;have ox:k<l.length:=by omega
  have Vy:k<ops.size:=by omega
  rw[List.drop_eq_getElem_cons ox]at hs;simp only[DD]at hs;cases k6:C7 C l[k] st with
  | none=>simp [k6]at hs
  | some A9 =>
   simp only[k6]at hs;obtain ⟨g,E,h1,h2,h3,h4⟩:=Th k6;rw[List.range'_succ,wpOps_cons];have hoi:ops[k]? = some ops[k]:=Array.getElem?_eq_getElem Vy;refine Ss hC hoi (hg k ops[k] l[k] (by simp [Vy]) (zE ox)) hf h1 (λ fi=>by rw[k8];exact h2 fi) λ m' a' ln nk => ?_
   refine Su hC j6 n (k+1) A9 k7 m' a' (by omega) hs ?_ ?_ hQ
   ·rw[ln,k8,h4]
   ·rw[k8]at nk
    rw[h3];exact nk
end
end Go.c9
