/-
  Addresses, loads, stores, slices.
-/
import Derived.Test.YtgdojcofnobpeaaGreatB1
import Derived.Laws.Slices
set_option linter.unusedSimpArgs false
set_option linter.unusedVariables false
set_option linter.unnecessarySimpa false
namespace Go.Eng
open Go.RowKit
section
variable {B:Nat} {S:Nat->Prop} {w0:World} {m:M}
variable {P:Program} {num:Nat->Nat} {o:Oper} {a:Act} {ρ:B8->AV}
theorem gP {x:AV} {v:Value} (h:CV B S m x v) (h1:x ≠ .any) (h2 : ∀ cs,x ≠ .agg cs) (h3 : ∀ cs,x ≠ .tup cs) (h4 : ∀ p f g cs,x ≠ .fn p f g cs:=by intros;simp):CC B S m x v:=by
 cases h with
 | any=>exact absurd rfl h1
 | tup as=>exact absurd rfl (h3 as)
 | ca h=>cases h with
  | one h=>exact h
  | agg cs=>exact absurd rfl (h2 cs)
  | fn p f g cs=>exact absurd rfl (h4 p f g cs)
theorem ZQ {s t i j:Nat} {v:Value} (h:CV B S m (.ptr s t i j) v) : ∃ ad,v = .pointer (some ad)/\t<m.own.c8 s /\ ∀ b,m.own.get s t=some b -> ∃ g,m.ν s t=some g/\ad=⟨g,i*b.a5+j,none⟩:=by
 cases gP h (by simp) (by simp) (by simp) with
 | rd h=>cases h
 | ptr s t i j ad ht h'=>exact ⟨ad,rfl,ht,h'⟩
theorem lW {cs:List AV} {v:Value} (h:CV B S m (.m8 cs) v) : ∃ (b o:Nat) (u:Nat->Value) (l:Bool),v = .pointer (some ⟨b,o,none⟩)/\(cs≠[]->safe B S m l b)/\(∀ j c,cs[j]? = some c->m.w.cell? ⟨b,o+j,none⟩=some (u j))/\(∀ j c,cs[j]? = some c->Rd m.w (safe B S m) c (u j)):=by
 cases gP h (by simp) (by simp) (by simp) with
 | rd h=>cases h
 | m8 _ b o u l h1 h2 h3=>exact ⟨b,o,u,l,rfl,h1,h2,h3⟩
theorem XP {s t z off len:Nat} {v:Value} (h:CV B S m (.row s t z off len) v) : ∃ (ad:Option Addr) (cap:Nat),v = .slice ad len cap/\t<m.own.c8 s/\0<z/\len<=cap/\(0<len->ad.isSome=true) /\
  ∀ b,m.own.get s t=some b->b.a5=z/\((len=0/\cap=0) \/ ∃ g arr e,m.ν s t=some g/\ad=some ⟨g,off*z,none⟩/\m.w.heap[g]? = some (.cells arr e (0,0))/\(off+cap)*z<=arr.size):=by
 cases gP h (by simp) (by simp) (by simp) with
 | rd h=>cases h
 | row s t z off len ad cap ht w4 fr ha h'=>exact ⟨ad,cap,rfl,ht,w4,fr,ha,h'⟩
theorem gR {l:Bool} {es:List (List AV)} {v:Value} (h:CV B S m (.sl l es) v):Rd m.w (safe B S m) (.sl l es) v:=by
 cases gP h (by simp) (by simp) (by simp) with
 | rd h=>exact h
theorem Ze (hm:DJ B S w0 m) (hs:EM B S m ρ a.eval) {x':B8} (h:CX P num o.op (.jz x')=true) {s t i j:Nat} (hx:ρ x' = .ptr s t i j):EP B S w0 P o a m (.val (.ptr s t i j)):=by
 obtain ⟨x,e6,h1⟩:=AjJ h;have hc:=hx ▸ hs x x' h1;obtain ⟨ad,hv,_,_⟩:=ZQ hc;refine GX hm (u := .pointer (some ad)) ?_ (hv ▸ hc);simp [execOp,e6,hv]
theorem Agz (hm:DJ B S w0 m) (hs:EM B S m ρ a.eval) {x':B8} {off:Nat} (h:CX P num o.op (.a6 x' off)=true) {s t i j:Nat} (hx:ρ x' = .ptr s t i j):EP B S w0 P o a m (.val (.ptr s t i (j+off))):=by
 obtain ⟨ty,x,f,fs,fd,inf,e6,h1,hu,hf,ho,hi,m9⟩:=Kh h;obtain ⟨ad,hv,ht,hb⟩:=ZQ (hx ▸ hs x x' h1);refine GX hm (u := .pointer (some (ad.add off))) ?_ (.ca (.one (.ptr s t i (j+off) _ ht λ b e7 => ?_)))
 ·simp [execOp,e6,hv,Instr.fieldAt,run_underlying hu,hf,Instr.sureAddr,fieldPlace,sizeOf,typeInfo,hi,m9,ho]
 ·obtain ⟨g,hg,rfl⟩:=hb b e7
  exact ⟨g,hg,by rw[KN];simp;omega⟩
theorem Agy (hm:DJ B S w0 m) (hs:EM B S m ρ a.eval) {x':B8} {off:Nat} (h:CX P num o.op (.a6 x' off)=true) {cs:List AV} (hx:ρ x' = .m8 cs):EP B S w0 P o a m (.val (.m8 (cs.drop off))):=by
 obtain ⟨ty,x,f,fs,fd,inf,e6,h1,hu,hf,ho,hi,m9⟩:=Kh h;obtain ⟨b,ob,u,l,hv,hR,hc,hr⟩:=lW (hx ▸ hs x x' h1);refine GX hm (u := .pointer (some ⟨b,ob+off,none⟩)) ?_ (.ca (.one (.m8 _ b (ob+off) (λ j=>u (off+j)) l (λ hne=>hR (λ e=>hne (by simp [e]))) (λ j c hj => ?_) (λ j c hj => ?_))))
 ·simp [execOp,e6,hv,Instr.fieldAt,run_underlying hu,hf,Instr.sureAddr,fieldPlace,sizeOf,typeInfo,hi,m9,ho,KN]
 ·rw[List.getElem?_drop]at hj
  rw[Nat.add_assoc];exact hc _ c hj
 ·rw[List.getElem?_drop]at hj
  exact hr _ c hj
theorem dF {agg:Bool} {cs:List AV} {v:AV} (h:MI agg cs=some v) {vs:List Value} (hc:CL B S m cs vs):CV B S m v (if agg then .agg vs.toArray else vs.getD 0 undef)/\(agg=false->vs.length=1):=by
 unfold MI at h;cases agg with
 | true =>
  obtain rfl:AV.agg cs=v:=by simpa using h
  exact ⟨.ca (.agg cs vs hc),by simp⟩
 | false =>
  simp only[Bool.false_eq_true,if_false]at h;split at h
  ·rename_i c
   obtain rfl:c=v:=by simpa using h
   obtain ⟨u,hu,hcc⟩:=ZO hc (j:=0) (c:=c) rfl;refine ⟨?_,λ_=>by rw[<-hc.1];rfl⟩;simp only[Bool.false_eq_true,if_false,List.getD,hu,Option.getD_some];exact .ca (.one hcc)
  ·cases h
theorem Ns (t:TypeId) (agg:Bool) (inf:TypeInfo) (bf : ∀ w,(isAgg t).run P w = .ok agg w) (hi:P.info? t=some inf) (vs:List Value) (off n:Nat) (hn:inf.size=n) (hle:off+n<=vs.length) (h1:agg=false->n=1) (w:World) :
  (Go.part t vs.toArray off).run P w = .ok (if agg then .agg ((vs.drop off).take n).toArray else ((vs.drop off).take n).getD 0 undef) w:=by
 unfold Go.part;rw[Sem.run_bind,bf w];cases agg with
 | true=>simp [sizeOf,typeInfo,hi,hn,List.extract_eq_take_drop]
 | false =>
  have e9:off<vs.length:=by have:=h1 rfl;omega
  simp [e9,h1 rfl]
theorem Yq (hm:DJ B S w0 m) (hs:EM B S m ρ a.eval) {x':B8} {off n:Nat} {agg:Bool} (h:CX P num o.op (.gj x' off n agg)=true) {cs ds:List AV} {v:AV} (hx:ρ x' = .agg cs) (hp:part cs off n=some ds) (hv:MI agg ds=some v) :
  EP B S w0 P o a m (.val v):=by
 obtain ⟨ty,x,f,fs,fd,inf,e6,h1,hu,hf,ho,hi,m9,bf,h0⟩:=AjB h;obtain ⟨vs,q5,hcl⟩:=gO (hx ▸ hs x x' h1);unfold Eng.part at hp;split at hp
 ·rename_i hle
  obtain rfl:(cs.drop off).take n=ds:=by simpa using hp
  obtain ⟨n8,bh⟩:=dF hv (uS hcl off n);have hl:=hcl.1;have h1':agg=false->n=1:=λ e=>by have:=bh e;simp at this;omega
  refine GX hm ?_ n8;simp only[execOp,e6,Sem.run_bind,Instr.field,run_underlying hu,Result.andThen_ok,hf,q5,asAgg,Sem.run_pure,ho];rw[Ns fd.type agg inf bf hi vs off n m9 (by omega) h1'];rfl
 ·cases hp
theorem Yv (hm:DJ B S w0 m) (hs:EM B S m ρ a.eval) {len a5:Nat} {agg:Bool} {x' i':B8} (h:CX P num o.op (.idx len a5 agg x' i')=true) {k:IntKind} {n:Int} {cs ds:List AV} {v:AV} (i5:ρ i' = .int k n) (hx:ρ x' = .agg cs) (h0:0<=n) (hn:n<len)
  (hp:part cs (n.toNat*a5) a5=some ds) (hv:MI agg ds=some v):EP B S w0 P o a m (.val v):=by
 obtain ⟨ty,x,i,e,inf,e6,h1,h2,hu,hi,m9,bf⟩:=AjC h;obtain ⟨vs,q5,hcl⟩:=gO (hx ▸ hs x x' h1);have jv:=J6 (i5 ▸ hs i i' h2);unfold Eng.part at hp;split at hp
 ·rename_i hle
  obtain rfl:(cs.drop (n.toNat*a5)).take a5=ds:=by simpa using hp
  obtain ⟨n8,bh⟩:=dF hv (uS hcl (n.toNat*a5) a5);have hl:=hcl.1;have h1':agg=false->a5=1:=λ e=>by have:=bh e;simp at this;omega
  refine GX hm ?_ n8;simp only[execOp,e6,Sem.run_bind,Instr.index,jv,asIntOf,Sem.run_pure,run_underlying hu,Result.andThen_ok,q5];rw[if_pos ⟨h0,hn⟩];simp only[Sem.run_bind,sizeOf,typeInfo,run_program,hi,Sem.run_pure,Result.andThen_ok,m9];rw[Ns e agg inf bf hi vs (n.toNat*a5) a5 m9 (by omega) h1'];rfl
 ·cases hp
theorem Yr (hm:DJ B S w0 m) (hs:EM B S m ρ a.eval) {len a5:Nat} {x' i':B8} (h:CX P num o.op (.a4 (some len) a5 x' i')=true) {k:IntKind} {n:Int} {s t i0 j:Nat} (i5:ρ i' = .int k n) (hx:ρ x' = .ptr s t i0 j) (h0:0<=n) (hn:n<len) :
  EP B S w0 P o a m (.val (.ptr s t i0 (j+n.toNat*a5))):=by
 obtain ⟨ty,x,i,e,inf,e6,h1,h2,hi,m9,hor⟩:=iL h;rcases hor with ⟨eo,hl,hu,e9⟩|⟨hl,_⟩
 ·obtain rfl:len=eo:=by simpa using hl
  obtain ⟨ad,hv,ht,hb⟩:=ZQ (hx ▸ hs x x' h1);have jv:=J6 (i5 ▸ hs i i' h2);refine GX hm (u := .pointer (some (ad.add (n.toNat*a5)))) ?_ (.ca (.one (.ptr s t i0 (j+n.toNat*a5) _ ht λ b e7 => ?_)))
  ·simp [execOp,e6,hv,jv,Instr.indexAt,asIntOf,run_underlying hu,Instr.sureAddr,sizeOf,typeInfo,hi,m9,h0,hn]
  ·obtain ⟨g,hg,rfl⟩:=hb b e7
   exact ⟨g,hg,by rw[KN];simp;omega⟩
 ·cases hl
theorem Ys (hm:DJ B S w0 m) (hs:EM B S m ρ a.eval) {len a5:Nat} {x' i':B8} (h:CX P num o.op (.a4 (some len) a5 x' i')=true) {k:IntKind} {n:Int} {cs:List AV} (i5:ρ i' = .int k n) (hx:ρ x' = .m8 cs) (h0:0<=n) (hn:n<len) :
  EP B S w0 P o a m (.val (.m8 (cs.drop (n.toNat*a5)))):=by
 obtain ⟨ty,x,i,e,inf,e6,h1,h2,hi,m9,hor⟩:=iL h;rcases hor with ⟨eo,hl,hu,e9⟩|⟨hl,_⟩
 ·obtain rfl:len=eo:=by simpa using hl
  obtain ⟨b,ob,u,l,hv,hR,hc,hr⟩:=lW (hx ▸ hs x x' h1);have jv:=J6 (i5 ▸ hs i i' h2);refine GX hm (u := .pointer (some ⟨b,ob+n.toNat*a5,none⟩)) ?_ (.ca (.one (.m8 _ b (ob+n.toNat*a5) (λ j=>u (n.toNat*a5+j)) l (λ hne=>hR (λ e=>hne (by simp [e]))) (λ j c hj => ?_) (λ j c hj => ?_))))
  ·simp [execOp,e6,hv,jv,Instr.indexAt,asIntOf,run_underlying hu,Instr.sureAddr,sizeOf,typeInfo,hi,m9,h0,hn,KN]
  ·rw[List.getElem?_drop]at hj
   rw[Nat.add_assoc];exact hc _ c hj
  ·rw[List.getElem?_drop]at hj
   exact hr _ c hj
 ·cases hl
theorem Nq (ty e:TypeId) (inf:TypeInfo) (hu:P.underlying ty=some (.slice e)) (hi:P.info? e=some inf) (ad:Addr) (len cap:Nat) (k:IntKind) (n:Int) (h0:0<=n) (hn:n<len) (w:World) :
  (Instr.indexAt ty (.slice (some ad) len cap) (.int k n)).run P w = .ok (.pointer (some (ad.add (n.toNat*inf.size)))) w:=by
 simp [Instr.indexAt,asIntOf,run_underlying hu,sizeOf,typeInfo,hi,h0,hn]
theorem Yt (hm:DJ B S w0 m) (hs:EM B S m ρ a.eval) {a5:Nat} {x' i':B8} (h:CX P num o.op (.a4 none a5 x' i')=true) {k:IntKind} {n:Int} {s t z off len:Nat} (i5:ρ i' = .int k n) (hx:ρ x' = .row s t z off len) (h0:0<=n) (hn:n<len) (hz:z=a5) :
  EP B S w0 P o a m (.val (.ptr s t (off+n.toNat) 0)):=by
 obtain ⟨ty,x,i,e,inf,e6,h1,h2,hi,m9,hor⟩:=iL h;rcases hor with ⟨_,hl,_⟩|⟨_,hu,_⟩
 ·cases hl
 ·obtain ⟨ad,cap,hv,ht,w4,fr,ha,hb⟩:=XP (hx ▸ hs x x' h1)
  have jv:=J6 (i5 ▸ hs i i' h2);obtain ⟨sf,rfl⟩:=Option.isSome_iff_exists.1 (ha (by omega));refine GX hm (u := .pointer (some (sf.add (n.toNat*a5)))) ?_ (.ca (.one (.ptr s t (off+n.toNat) 0 _ ht λ b e7 => ?_)))
  ·simp only[execOp,e6,hv,jv,Sem.run_bind]
   rw[Nq ty e inf hu hi sf len cap k n h0 hn,m9];rfl
  ·obtain ⟨cr,hor⟩:=hb b e7
   rcases hor with ⟨hl0,_⟩|⟨g,arr,e',hg,dh,_,_⟩
   ·omega
   ·obtain rfl:sf=⟨g,off*z,none⟩:=by simpa using dh
    exact ⟨g,hg,by rw[KN,cr,<-hz,Nat.add_mul];rfl⟩
theorem Yu (hm:DJ B S w0 m) (hs:EM B S m ρ a.eval) {a5:Nat} {x' i':B8} (h:CX P num o.op (.a4 none a5 x' i')=true) {k:IntKind} {n:Int} {l:Bool} {es:List (List AV)} {cs:List AV} (i5:ρ i' = .int k n) (hx:ρ x' = .sl l es) (h0:0<=n) (hn:es[n.toNat]? = some cs) (hz:cs.length=a5) :
  EP B S w0 P o a m (.val (.m8 cs)):=by
 obtain ⟨ty,x,i,e,inf,e6,h1,h2,hi,m9,hor⟩:=iL h;rcases hor with ⟨_,hl,_⟩|⟨_,hu,_⟩
 ·cases hl
 ·have ik:=gR (hx ▸ hs x x' h1)
  have jv:=J6 (i5 ▸ hs i i' h2);have e9:n.toNat<es.length:=(zS hn).1;generalize q5:a.eval x=v at ik;cases ik with
  | dm=>simp at e9
  | sl _ _ b ob n0 cap u hne hp hR o9 z8 hc hr =>
   have wu:n0=a5:=by
    rw[<-hz];exact (z8 cs (zM hn)).symm
   subst wu;refine GX hm (u := .pointer (some ⟨b,ob+n.toNat*n0,none⟩)) ?_ (.ca (.one (.m8 _ b (ob+n.toNat*n0) (u n.toNat) l (λ_=>hR) (λ j c hj => ?_) (λ j c hj=>hr _ cs hn j c hj))))
   ·simp only[execOp,e6,q5,jv,Sem.run_bind]
    rw[Nq ty e inf hu hi ⟨b,ob,none⟩ es.length cap k n h0 (by omega),m9,KN];rfl
   ·rw[Nat.add_assoc]
    exact hc _ cs hn j c hj
end
end Go.Eng
namespace Go.Eng
open Go.RowKit
section
variable {B:Nat} {S:Nat->Prop} {w0:World} {m:M}
variable {P:Program} {num:Nat->Nat} {o:Oper} {a:Act} {ρ:B8->AV}
theorem qD (t:TypeId) (agg:Bool) (n:Nat) (bf : ∀ w,(isAgg t).run P w = .ok agg w) (hn:if agg then ∃ i,P.info? t=some i/\i.size=n else n=1) (ad:Addr) (vs:List Value) (hl:vs.length=n) (w:World)
  (hc : ∀ q v,vs[q]? = some v->w.cell? (ad.add q)=some v):(Instr.loadAt t (.pointer (some ad))).run P w = .ok (if agg then .agg vs.toArray else vs.getD 0 undef) w:=by
 unfold Instr.loadAt loadVar;simp only[Instr.sureAddr,Sem.run_bind,Sem.run_pure,Result.andThen_ok,bf w];cases agg with
 | true =>
  simp only[if_true]at hn;obtain ⟨i,hi,hs⟩:=hn;have:=run_loadCells_list (P:=P) w ad vs hc;simp [sizeOf,typeInfo,hi,hs,<-hl,this]
 | false =>
  simp only[Bool.false_eq_true,if_false]at hn ⊢;have e9:0<vs.length:=by omega
  have h0:=hc 0 vs[0] (zE e9);have mv:w.cell? ad=some vs[0]:=by simpa [Addr.add] using h0
  simp [load,Sem.run,mv,e9]
theorem Lx (hm:DJ B S w0 m) {s t i j n:Nat} {cs:List AV} (h:m.own.iq s t i j n=some cs) : ∃ b g arr e,m.own.get s t=some b/\(0<n->m.ν s t=some g/\m.w.heap[g]? = some (.cells arr e (0,0))) /\
  ∃ vs:List Value,vs.length=n/\CL B S m cs vs /\ ∀ q v,vs[q]? = some v->arr[i*b.a5+j+q]? = some v:=by
 unfold BT.iq at h;cases hb:m.own.get s t with
 | none=>simp [hb]at h
 | some b =>
  simp only[hb]at h;cases he:b.es[i]? with
  | none=>simp [he]at h
  | some ds =>
   simp only[he,part]at h;split at h
   ·rename_i hle
    obtain rfl:(ds.drop j).take n=cs:=by simpa using h
    obtain ⟨hz,hmat⟩:=hm.blk s t b hb;cases hν:m.ν s t with
    | none =>
     rw[hν]at hmat;rw[hmat]at he;simp at he
    | some g =>
     rw[hν]at hmat;obtain ⟨hB,arr,e,hh,hcc⟩:=hmat;have m9 : ∀ q,q<n -> ∃ u,arr[i*b.a5+j+q]? = some u:=λ q hq=>by
      have e9:j+q<ds.length:=by omega
      obtain ⟨u,hu,_⟩:=hcc i ds he (j+q) ds[j+q] (zE e9);exact ⟨u,by rw[<-hu];congr 1;omega⟩
     refine ⟨b,g,arr,e,rfl,λ_=>⟨rfl,hh⟩,(arr.toList.drop (i*b.a5+j)).take n,?_,⟨?_,?_⟩,?_⟩
     ·rw[List.length_take,List.length_drop]
      rcases Nat.eq_zero_or_pos n with h0|h0
      ·omega
      ·obtain ⟨u,hu⟩:=m9 (n-1) (by omega)
       have:=(Array.getElem?_eq_some_iff.1 hu).1
       simp;omega
     ·rw[List.length_take,List.length_take,List.length_drop,List.length_drop]
      rcases Nat.eq_zero_or_pos n with h0|h0
      ·omega
      ·obtain ⟨u,hu⟩:=m9 (n-1) (by omega)
       have:=(Array.getElem?_eq_some_iff.1 hu).1
       simp;omega
     ·intro q c v hq hv
      rw[List.getElem?_take]at hq hv;split at hq
      ·rename_i vn
       rw[if_pos vn]at hv;rw[List.getElem?_drop]at hq hv;obtain ⟨u,hu,hc⟩:=hcc i ds he (j+q) c hq;have:some u=some v:=by
        rw[<-hu,<-hv];simp only[Array.getElem?_toList];congr 1;omega
       obtain rfl:u=v:=by simpa using this
       exact hc
      ·cases hq
     ·intro q v hv
      rw[List.getElem?_take]at hv;split at hv
      ·rw[List.getElem?_drop]at hv
       simpa using hv
      ·cases hv
   ·cases h
theorem gC {w:World} {g p:Nat} {arr:Array Value} {e:TypeId} (h:w.heap[g]? = some (.cells arr e (0,0))):w.cell? ⟨g,p,none⟩=arr[p]? := by
 simp [World.cell?,h]
theorem Yx (hm:DJ B S w0 m) (hs:EM B S m ρ a.eval) {agg:Bool} {n:Nat} {x':B8} (h:CX P num o.op (.ld agg n x')=true) {s t i j:Nat} {cs:List AV} {v:AV} (hx:ρ x' = .ptr s t i j) (hl:m.own.iq s t i j n=some cs) (hv:MI agg cs=some v) :
  EP B S w0 P o a m (.val v):=by
 obtain ⟨ty,x,e6,h1,bf,hn⟩:=Ki h;obtain ⟨ad,q5,ht,hb⟩:=ZQ (hx ▸ hs x x' h1);obtain ⟨b,g,arr,e,g6,hg,vs,hvl,hcl,de⟩:=Lx hm hl;obtain ⟨n8,_⟩:=dF hv hcl;refine GX hm ?_ n8;simp only[execOp,e6,Sem.run_bind,q5];rw[qD ty agg n bf hn ad vs hvl m.w (λ q u hq => ?_)]
 ·rfl
 ·have e9:q<vs.length:=(zS hq).1
  obtain ⟨qz,dw⟩:=hg (by omega);obtain ⟨g',x7,rfl⟩:=hb b g6;obtain rfl:g=g':=by rw[qz]at x7;simpa using x7
  rw[KN,gC dw];exact de q u hq
theorem Yw (hm:DJ B S w0 m) (hs:EM B S m ρ a.eval) {agg:Bool} {n:Nat} {x':B8} (h:CX P num o.op (.ld agg n x')=true) {cs ds:List AV} {v:AV} (hx:ρ x' = .m8 cs) (hl:part cs 0 n=some ds) (hv:MI agg ds=some v) :
  EP B S w0 P o a m (.val v):=by
 obtain ⟨ty,x,e6,h1,bf,hn⟩:=Ki h;obtain ⟨b,ob,u,l,q5,hR,hc,hr⟩:=lW (hx ▸ hs x x' h1);unfold Eng.part at hl;split at hl
 ·rename_i hle
  obtain rfl:(cs.drop 0).take n=ds:=by simpa using hl
  have hcl:CL B S m ((cs.drop 0).take n) ((List.range n).map u):=by
   refine ⟨by simp;omega,λ q c v' hq je => ?_⟩;simp only[List.drop_zero,List.getElem?_take]at hq;split at hq
   ·rename_i vn
    simp [vn]at je;subst je;exact .rd (hr q c hq)
   ·cases hq
  obtain ⟨n8,_⟩:=dF hv hcl;refine GX hm ?_ n8;simp only[execOp,e6,Sem.run_bind,q5];rw[qD ty agg n bf hn ⟨b,ob,none⟩ ((List.range n).map u) (by simp) m.w (λ q w' hq => ?_)]
  ·rfl
  ·have vn:q<n:=by have:=(zS hq).1;simpa using this
   simp [vn]at hq;subst hq;rw[KN];exact hc q cs[q] (zE (by omega))
 ·cases hl
theorem kA {α:Type} (l:List α) (off:Nat) (vs:List α) (h:off+vs.length<=l.length) (q:Nat):(l.take off++vs++l.drop (off+vs.length))[q]? = if q<off then l[q]? else if q<off+vs.length then vs[q-off]? else l[q]? := by
 rw[List.append_assoc];by_cases h1:q<off
 ·rw[if_pos h1,List.getElem?_append_left (by simp;omega),List.getElem?_take,if_pos h1]
 ·rw[if_neg h1,List.getElem?_append_right (by simp;omega)]
  have e1:(l.take off).length=off:=by simp;omega
  rw[e1];by_cases h2:q<off+vs.length
  ·rw[if_pos h2,List.getElem?_append_left (by omega)]
  ·rw[if_neg h2,List.getElem?_append_right (by omega),List.getElem?_drop]
   congr 1;omega
theorem lG (hm:DJ B S w0 m) {g:Nat} (hB:B<=g) (arr:Array Value):Below B w0 (m.w.setRow g arr) :=
 hm.below.trans ⟨rfl,rfl,rfl,by simp,λ k hk=>setRow_other _ _ _ _ (by omega)⟩
theorem wS (hm:DJ B S w0 m) (hs:EM B S m ρ a.eval) {n:Nat} {x' v':B8} (h:CX P num o.op (.st n x' v')=true) {s t i j:Nat} {vs:List AV} {g7:BT} (hx:ρ x' = .ptr s t i j) (hv:cellsOf (ρ v')=some vs) (hn:vs.length=n) (hst:m.own.er s t i j vs=some g7) :
  EP B S w0 P o a m (.w8 (.tup []) g7):=by
 obtain ⟨ty,x,v,inf,e6,h1,h2,hi,m9⟩:=AjP h;obtain ⟨ad,q5,ht,hb⟩:=ZQ (hx ▸ hs x x' h1);have hcl:=gQ (hs v v' h2) hv;unfold BT.er at hst;cases g6:m.own.get s t with
 | none=>simp [g6]at hst
 | some b =>
  simp only[g6]at hst;cases he:b.es[i]? with
  | none=>simp [he]at hst
  | some cs =>
   simp only[he]at hst;split at hst
   ·rename_i hle
    obtain rfl:=Option.some.inj hst;obtain ⟨hz,hmat⟩:=hm.blk s t b g6;obtain ⟨g,hg,rfl⟩:=hb b g6;rw[hg]at hmat;obtain ⟨hB,arr,e,hh,hcc⟩:=hmat;have kj:cs.length=b.a5:=hz cs (zM he);have hlen:(a.eval v).cells.toList.length=vs.length:=hcl.1.symm;have hil:i<b.es.length:=(zS he).1;have re:i*b.a5+j+vs.length<=arr.size:=by
     rcases Nat.eq_zero_or_pos vs.length with h0|h0
     ·rcases Nat.eq_zero_or_pos j with hj0|hj0
      ·rw[h0,hj0]
       rcases Nat.eq_zero_or_pos i with gl|gl
       ·rw[gl];omega
       ·rcases Nat.eq_zero_or_pos b.a5 with w4|w4
        ·rw[w4];omega
        ·have sz:i-1<b.es.length:=by omega
         have hl1:(b.es[i-1]).length=b.a5:=hz _ (List.getElem_mem sz);obtain ⟨u,hu,_⟩:=hcc (i-1) _ (zE sz) (b.a5-1) _ (zE (by omega));have:=(Array.getElem?_eq_some_iff.1 hu).1;have e1:(i-1)*b.a5+b.a5=i*b.a5:=by
          rw[<-Nat.succ_mul];congr 1;omega
         omega
      ·obtain ⟨u,hu,_⟩:=hcc i cs he (j-1) cs[j-1] (zE (by omega))
       have:=(Array.getElem?_eq_some_iff.1 hu).1
       omega
     ·obtain ⟨u,hu,_⟩:=hcc i cs he (j+vs.length-1) cs[j+vs.length-1] (zE (by omega))
      have:=(Array.getElem?_eq_some_iff.1 hu).1
      omega
    have bh:=Wg hcl;have lq:=run_storeCells_at (P:=P) g (i*b.a5+j) e (a.eval v).cells.toList 0 arr m.w hh (by rw[hlen];omega) bh;generalize bp:(arr.toList.take (i*b.a5+j+0)++(a.eval v).cells.toList++arr.toList.drop (i*b.a5+j+0+(a.eval v).cells.toList.length)).toArray=m4 at lq;have oa : ∀ p,m4[p]? = if p<i*b.a5+j then arr[p]? else if p<i*b.a5+j+vs.length then (a.eval v).cells.toList[p-(i*b.a5+j)]? else arr[p]? := λ p=>by
     rw[<-bp];simp only[Nat.add_zero,List.getElem?_toArray];rw[kA _ _ _ (by rw[hlen];simpa using re),hlen];simp only[Array.getElem?_toList]
    have dc:m4.size=arr.size:=by
     rw[<-bp];simp [hlen];have:=hlen;simp at this;omega
    obtain ⟨k1,k2⟩:=Oo hm s t b ⟨b.a5,b.es.set i (splice cs j vs)⟩ g6 g hg arr m4 e hh rfl (λ y hy=>by
      rcases List.mem_or_eq_of_mem_set hy with hy|hy
      ·exact hz y hy
      ·rw[hy,<-kj];simp [splice];omega) dc
     (λ i' af i5 q c hq=>by
      show ∃ u,m4[i'*b.a5+q]? = some u/\_;change (b.es.set i (splice cs j vs))[i']? = some af at i5;by_cases Qe:i'=i
      ·subst Qe
       rw[List.getElem?_set_self hil]at i5;obtain rfl:splice cs j vs=af:=by simpa using i5
       unfold splice at hq;rw[kA _ _ _ hle]at hq;rw[oa];by_cases nk:q<j
       ·rw[if_pos nk]at hq
        rw[if_pos (by omega)];exact hcc i' cs he q c hq
       ·rw[if_neg nk]at hq
        rw[if_neg (by omega)];by_cases te:q<j+vs.length
        ·rw[if_pos te]at hq
         rw[if_pos (by omega)];obtain ⟨u,hu,w6⟩:=ZO hcl hq;exact ⟨u,by rw[<-hu];congr 1;omega,w6⟩
        ·rw[if_neg te]at hq
         rw[if_neg (by omega)];exact hcc i' cs he q c hq
      ·rw[List.getElem?_set_ne (by omega)]at i5
       have hql:q<b.a5:=by
        rw[<-hz af (zM i5)];exact (zS hq).1
       obtain ⟨u,hu,w6⟩:=hcc i' af i5 q c hq;refine ⟨u,?_,w6⟩;rw[oa,<-hu];rcases Nat.lt_or_gt_of_ne Qe with e9|jk
       ·have:(i'+1)*b.a5<=i*b.a5:=Nat.mul_le_mul_right _ e9
        rw[Nat.succ_mul]at this;rw[if_pos (by omega)]
       ·have:(i+1)*b.a5<=i'*b.a5:=Nat.mul_le_mul_right _ jk
        rw[Nat.succ_mul]at this;rw[if_neg (by omega),if_neg (by omega)])
     (m.w.setRow g m4) (lG hm hB m4) (by simp) (λ k hk=>setRow_other _ _ _ _ hk) (setRow_heap _ _ _ _ _ _ hh)
    intro K Q hK;refine AlZ (w':=m.w.setRow g m4) ?_ (hK undef ⟨m.ν,_,m.w.setRow g m4⟩ rfl k1 k2 Jb);have Hf:(a.eval v).cells.size=inf.size:=by rw[m9,<-hn,<-hlen];simp
    simp only[execOp,e6,q5,Instr.storeAt,storeVar,Instr.sureAddr,Sem.run_bind,Sem.run_pure,Result.andThen_ok,sizeOf,typeInfo,run_program,hi];rw[if_neg (by simpa using Hf)];simp only[Sem.run_bind,Sem.run_pure,Result.andThen_ok,lq]
   ·cases hst
theorem Yz (hm:DJ B S w0 m) (hs:EM B S m ρ a.eval) {s a5 bytes:Nat} {zero:List AV} {l' c':B8} (h:CX P num o.op (.mk s a5 bytes zero l' c')=true) {kl kc:IntKind} {l c:Int} (hl:ρ l' = .int kl l) (hc:ρ c' = .int kc c) (h0:0<=l) (fr:l<=c) (hb:c*bytes<=FR) (pz:c<=9223372036854775807) (hz:zero.length=a5) :
  EP B S w0 P o a m (.new s ⟨a5,List.replicate l.toNat zero⟩ (λ t => .row s t a5 0 l.toNat)):=by
 obtain ⟨ty,lx,cx,e,inf,z,e6,h1,h2,hu,hi,m9,ig,w4,z8,hne⟩:=AjG h;have el:=J6 (hl ▸ hs lx l' h1);have ec:=J6 (hc ▸ hs cx c' h2);have hcl:CL B S m zero z.cells.toList:=ZV z8;have hzs:z.cells.size=a5:=by rw[<-hz,hcl.1];simp
 refine wR hm s a5 l.toNat c.toNat _ (madeCells z.cells (c.toNat*inf.size)) e (Nat.pos_of_ne_zero hne) (by omega) (by rw[size_madeCells,m9];exact Nat.le_refl _) (λ x hx=>by rw[(List.mem_replicate.1 hx).2,hz]) (λ i cs i5 j c1 hj => ?_) ?_
 ·rw[List.getElem?_replicate]at i5
  split at i5
  ·rename_i hil
   obtain rfl:zero=cs:=by simpa using i5
   obtain ⟨u,ag,w6⟩:=ZO hcl hj;refine ⟨u,?_,w6⟩;have hjl:j<a5:=by rw[<-hz];exact (zS hj).1
   have e9:i*a5+j<c.toNat*inf.size:=by
    rw[m9];have h3:(i+1)*a5<=c.toNat*a5:=Nat.mul_le_mul_right _ (by omega);rw[Nat.succ_mul]at h3;omega
   have Gk:(i*a5+j)%z.cells.size=j:=by rw[hzs,Nat.add_comm,Nat.add_mul_mod_self_right,Nat.mod_eq_of_lt hjl]
   have ti:z.cells[j]? = some u:=by simpa using ag
   have hjs:j<z.cells.size:=(Array.getElem?_eq_some_iff.1 ti).1;have hul:z.cells[j]=u:=(Array.getElem?_eq_some_iff.1 ti).2;simp [madeCells,e9,Gk,hjs,hul]
  ·cases i5
 ·have:=run_make (P:=P) m.w ty e inf z hu hi w4 kl kc l c h0 fr (by rw[ig,Int.mul_comm];simp only[FR]at hb;omega) pz
  simp only[execOp,e6,el,ec,Sem.run_bind,this,Result.andThen_ok,Sem.run_pure]
theorem Agx (hm:DJ B S w0 m) (hs:EM B S m ρ a.eval) {x':B8} {i:Nat} (h:CX P num o.op (.ext x' i)=true) {vs:List AV} {v:AV} (hx:ρ x' = .tup vs) (hv:vs[i]? = some v):EP B S w0 P o a m (.val v):=by
 obtain ⟨x,e6,h1⟩:=AjA h;obtain ⟨us,q5,hl,hc⟩:=lZ (hx ▸ hs x x' h1);have e9:i<us.length:=by rw[<-hl];exact (zS hv).1
 refine GX hm (u:=us[i]) ?_ (.ca (hc i v us[i] hv (zE e9)));simp [execOp,e6,q5,Instr.extract,e9]
theorem Yy (hm:DJ B S w0 m) (hs:EM B S m ρ a.eval) {x':B8} (h:CX P num o.op (.len x')=true) {n:Nat} (hx:lenOf (ρ x')=some n):EP B S w0 P o a m (.val (.int .i64 n)):=by
 obtain ⟨x,t,e,e6,h1,hu⟩:=AjF h;have n8:=hs x x' h1;obtain ⟨ad,cap,q5⟩ : ∃ ad cap,a.eval x = .slice ad n cap:=by
  generalize ρ x'=av at *;cases av with
  | sl l es =>
   have hr:=gR n8;simp only[lenOf,Option.some.injEq]at hx;subst hx;generalize a.eval x=v at *;cases hr with
   | dm=>exact ⟨_,_,rfl⟩
   | sl=>exact ⟨_,_,rfl⟩
  | row s t z off len =>
   obtain ⟨ad,cap,hv,_⟩:=XP n8;simp only[lenOf,Option.some.injEq]at hx;subst hx;exact ⟨ad,cap,hv⟩
  | nil =>
   simp only[lenOf,Option.some.injEq]at hx;subst hx;exact ⟨_,_,U0 n8⟩
  | _=>simp [lenOf]at hx
 refine GX hm (u := .int .i64 n) ?_ (PP _ _);simp [execOp,e6,resolve,invoke,builtin,q5,Builtin.len_,run_underlying hu,goInt]
theorem Agu (hm:DJ B S w0 m) (hs:EM B S m ρ a.eval) {x':B8} (h:CX P num o.op (.ak x')=true) (hx:ρ x' = .nil):EP B S w0 P o a m (.val (.int .i64 0)):=by
 obtain ⟨x,t,e,e6,h1,hu⟩:=Ajx h;have q5:=U0 (hx ▸ hs x x' h1);refine GX hm (u := .int .i64 0) ?_ (PP _ _);simp [execOp,e6,resolve,invoke,builtin,q5,Builtin.cap_,run_underlying hu,goInt]
theorem ZU (hs:EM B S m ρ a.eval) : ∀ {xs:List Operand} {ys:List B8},G2 xs ys=true->xs.length=ys.length /\ ∀ (j:Nat) (x:Operand) (y:B8),xs[j]? = some x->ys[j]? = some y->CV B S m (ρ y) (a.eval x)
 | [],[],_=>⟨rfl,λ j x y h=>by simp at h⟩
 | x::r,y::l,h=>by
  simp only[G2,Bool.and_eq_true]at h;obtain ⟨ih1,gp⟩:=ZU hs h.2;refine ⟨by simp [ih1],λ j x' y' hx hy => ?_⟩;cases j with
  | zero=>simp at hx hy;subst hx hy;exact hs _ _ h.1
  | succ j=>exact gp j x' y' (by simpa using hx) (by simpa using hy)
 | [],_::_,h=>by simp [G2]at h
 | _::_,[],h=>by simp [G2]at h
theorem Nr (mx:Bool) (hs:EM B S m ρ a.eval) (w:World) : ∀ (xs:List Operand) (ys:List B8) (v:AV) (u:Value) (r:AV),G2 xs ys=true->CV B S m v u->OD mx v (ys.map ρ)=some r->(∃ k n,v = .int k n) -> ∃ k n,r = .int k n /\
  ((xs.map a.eval).foldlM (if mx then Builtin.max2 else Builtin.min2) u).run P w = .ok (.int k n) w
 | [],[],v,u,r,_,hc,hm,⟨k,n,hv⟩=>by
  simp only[List.map_nil,OD,Option.some.injEq]at hm;subst hm hv;obtain rfl:=J6 hc;exact ⟨k,n,rfl,by simp⟩
 | x::xr,y::yr,v,u,r,he,hc,hm,⟨k,n,hv⟩=>by
  simp only[G2,Bool.and_eq_true]at he;simp only[List.map_cons,OD]at hm;have hx:=hs x y he.1;subst hv;obtain rfl:=J6 hc;cases hy:ρ y with
  | int k' n' =>
   rw[hy]at hx hm;have hxe:=J6 hx;simp only[VH]at hm;obtain ⟨k2,n2,rfl,h2⟩:=Nr mx hs w xr yr _ (.int k (if mx then (if n'>n then n' else n) else (if n'<n then n' else n))) r he.2 (PP _ _) hm ⟨_,_,rfl⟩;refine ⟨k2,n2,rfl,?_⟩;simp only[List.map_cons,List.foldlM_cons,Sem.run_bind,hxe];cases mx
   ·simpa [Builtin.min2] using h2
   ·simpa [Builtin.max2] using h2
  | _=>rw[hy]at hm;simp [VH]at hm
 | [],_::_,_,_,_,he,_,_,_=>by simp [G2]at he
 | _::_,[],_,_,_,he,_,_,_=>by simp [G2]at he
theorem Zb (hm:DJ B S w0 m) (hs:EM B S m ρ a.eval) {mx:Bool} {l6:List B8} (h:CX P num o.op (.mm mx l6)=true) {v r:AV} {l:List AV} (hx:l6.map ρ=v::l) (hv:OD mx v l=some r) (hi : ∃ k n,v = .int k n):EP B S w0 P o a m (.val r):=by
 obtain ⟨xs,ts,e6,he⟩:=Kj h;cases l6 with
 | nil=>simp at hx
 | cons y yr =>
  simp only[List.map_cons,List.cons.injEq]at hx;obtain ⟨rfl,rfl⟩:=hx;obtain ⟨xl⟩:=xs;cases xl with
  | nil=>simp [G2]at he
  | cons x xr =>
   simp only[G2,Bool.and_eq_true]at he;obtain ⟨k,n,rfl,i7⟩:=Nr (P:=P) mx hs m.w xr yr (ρ y) (a.eval x) r he.2 (hs x y he.1) hv hi;refine GX hm (u := .int k n) ?_ (PP _ _);cases mx
   ·simp only[execOp,e6,resolve,invoke,builtin,Builtin.min_,Sem.run_bind,Sem.run_pure,Result.andThen_ok]at i7 ⊢
    simp at i7 ⊢;rw[i7];rfl
   ·simp only[execOp,e6,resolve,invoke,builtin,Builtin.max_,Sem.run_bind,Sem.run_pure,Result.andThen_ok]at i7 ⊢
    simp at i7 ⊢;rw[i7];rfl
end
end Go.Eng

namespace Go.Eng
open Go.RowKit
section
variable {B:Nat} {S:Nat->Prop} {w0:World} {m:M}
variable {P:Program} {num:Nat->Nat} {o:Oper} {a:Act} {ρ:B8->AV}
def KO (ρ:B8->AV) (d:Nat):Option B8->Option Int
 | none=>some d
 | some y=>match ρ y with | .int _ n=>some n|_=>none
theorem jQ (ty e:TypeId) (inf:TypeInfo) (hu:P.underlying ty=some (.slice e)) (hi:P.info? e=some inf) (hs:EM B S m ρ a.eval) {lo i5:Option Operand} {gq uw:Option B8} (gm:T9 lo gq=true) (Ai:T9 i5 uw=true)
  (ad:Option Addr) (len cap:Nat) (l h:Int) (hl:KO ρ 0 gq=some l) (hh:KO ρ len uw=some h) (h0:0<=l) (hlh:l<=h) (hhl:h<=len) (fr:len<=cap) (w:World) :
  (Instr.sliceAt ty (.slice ad len cap) (lo.map a.eval) (i5.map a.eval) none).run P w = .ok (.slice (if cap=l.toNat then ad else ad.map (·.add (l.toNat*inf.size))) (h.toNat-l.toNat) (cap-l.toNat)) w:=by
 have jv : ∀ {x:Option Operand} {y:Option B8} {d:Nat} {n:Int},T9 x y=true->KO ρ d y=some n->(x=none/\y=none/\n=d) \/ ∃ x' k,x=some x'/\a.eval x' = .int k n:=by
  intro x y d n fw hb;cases x with
  | none=>cases y with
   | none=>simp [KO]at hb;exact .inl ⟨rfl,rfl,hb.symm⟩
   | some y=>simp [T9]at fw
  | some x=>cases y with
   | none=>simp [T9]at fw
   | some y =>
    simp only[T9]at fw;simp only[KO]at hb;cases hy:ρ y with
    | int k q =>
     rw[hy]at hb;simp only[Option.some.injEq]at hb;subst hb;exact .inr ⟨x,k,rfl,J6 (hy ▸ hs x y fw)⟩
    | _=>rw[hy]at hb;cases hb
 have od:h<=(cap:Int):=by omega
 unfold Instr.sliceAt Instr.slice Instr.sliceBounds;rcases jv gm hl with ⟨rfl,_,rfl⟩|⟨x1,k1,rfl,e1⟩<;>rcases jv Ai hh with ⟨rfl,_,rfl⟩|⟨x2,k2,rfl,e2⟩
 ·simp [run_underlying hu,sizeOf,typeInfo,hi]
 ·have ji:=run_sliceBound (P:=P) w k2 h cap .sliceAcap (by omega) od
  simp [run_underlying hu,sizeOf,typeInfo,hi,e2,ji]
 ·have m7:=run_sliceBound (P:=P) w k1 l len .sliceB h0 (by omega)
  simp [run_underlying hu,sizeOf,typeInfo,hi,e1,m7]
 ·have ji:=run_sliceBound (P:=P) w k2 h cap .sliceAcap (by omega) od
  have m7:=run_sliceBound (P:=P) w k1 l h.toNat .sliceB h0 (by omega);simp [run_underlying hu,sizeOf,typeInfo,hi,e1,e2,ji,m7]
theorem Zg (hm:DJ B S w0 m) (hs:EM B S m ρ a.eval) {a5:Nat} {x':B8} {gq i5:Option B8} (h:CX P num o.op (.ae a5 x' gq i5)=true) (hx:ρ x' = .nil) (hl:KO ρ 0 gq=some 0) (hh:KO ρ 0 i5=some 0):EP B S w0 P o a m (.val .nil):=by
 obtain ⟨ty,x,lo,hi2,e,inf,e6,h1,h2,h3,hu,hi,m9,hne⟩:=oK h;have q5:=U0 (hx ▸ hs x x' h1);have i7:=jQ ty e inf hu hi hs h2 h3 none 0 0 0 0 hl hh (by omega) (by omega) (by omega) (by omega) m.w;refine GX hm (u := .slice none 0 0) ?_ (.ca (.one .nil));simp only[execOp,e6,q5,Sem.run_bind,Option.map_none,i7];rfl
theorem Zh (hm:DJ B S w0 m) (hs:EM B S m ρ a.eval) {a5:Nat} {x':B8} {gq i5:Option B8} (h:CX P num o.op (.ae a5 x' gq i5)=true) {s t z off len:Nat} {l u:Int} (hx:ρ x' = .row s t z off len) (hl:KO ρ 0 gq=some l) (hh:KO ρ len i5=some u) (h0:0<=l) (Ak:l<=u) (hul:u<=len) (hz:z=a5) :
  EP B S w0 P o a m (.val (.row s t z (off+l.toNat) (u.toNat-l.toNat))):=by
 obtain ⟨ty,x,lo,hi2,e,inf,e6,h1,h2,h3,hu,hi,m9,hne⟩:=oK h;obtain ⟨ad,cap,q5,ht,w4,fr,ha,hb⟩:=XP (hx ▸ hs x x' h1);have i7:=jQ ty e inf hu hi hs h2 h3 ad len cap l u hl hh h0 Ak hul fr m.w;refine GX hm ?_ (.ca (.one (.row s t z (off+l.toNat) (u.toNat-l.toNat) (if cap=l.toNat then ad else ad.map (·.add (l.toNat*inf.size))) (cap-l.toNat) ht w4 (by omega) (λ hp => ?_) λ b e7 => ?_)))
 ·simp only[execOp,e6,q5,Sem.run_bind,Option.map_none,i7]
  rfl
 ·rw[if_neg (by omega)]
  obtain ⟨sf,rfl⟩:=Option.isSome_iff_exists.1 (ha (by omega));rfl
 ·obtain ⟨cr,hor⟩:=hb b e7
  refine ⟨cr,?_⟩;rcases hor with ⟨hl0,hc0⟩|⟨g,arr,e',hg,dh,Ah,hle⟩
  ·exact .inl ⟨by omega,by omega⟩
  ·by_cases hc:cap=l.toNat
   ·exact .inl ⟨by omega,by omega⟩
   ·refine .inr ⟨g,arr,e',hg,?_,Ah,?_⟩
    ·rw[if_neg hc,dh,m9,hz]
     simp only[Option.map_some,KN,Nat.add_mul]
    ·rw[show off+l.toNat+(cap-l.toNat)=off+cap by omega]
     exact hle
theorem Zi (hm:DJ B S w0 m) (hs:EM B S m ρ a.eval) {a5:Nat} {x':B8} {gq i5:Option B8} (h:CX P num o.op (.ae a5 x' gq i5)=true) {lt:Bool} {es:List (List AV)} {l u:Int} (hx:ρ x' = .sl lt es) (hl:KO ρ 0 gq=some l) (hh:KO ρ es.length i5=some u) (h0:0<=l) (Ak:l<=u) (hul:u<=es.length) (hz : ∀ e∈es,e.length=a5) :
  EP B S w0 P o a m (.val (.sl lt ((es.take u.toNat).drop l.toNat))):=by
 obtain ⟨ty,x,lo,hi2,e,inf,e6,h1,h2,h3,hu,hi,m9,hne⟩:=oK h;have ik:=gR (hx ▸ hs x x' h1);generalize q5:a.eval x=v at ik;cases ik with
 | dm _ ad cap =>
  have i7:=jQ ty e inf hu hi hs h2 h3 ad 0 cap l u hl hh h0 Ak (by simpa using hul) (by omega) m.w;simp only[List.length_nil]at hul;rw[show (([]:List (List AV)).take u.toNat).drop l.toNat=[] by simp];refine GX hm (u := .slice (if cap=l.toNat then ad else ad.map (·.add (l.toNat*inf.size))) 0 (cap-l.toNat)) ?_ (.ca (.one (.rd (.dm lt _ _))));simp only[execOp,e6,q5,Sem.run_bind,Option.map_none,i7];rw[show u.toNat-l.toNat=0 by omega];rfl
 | sl _ _ b ob n0 cap uu lg hp hR o9 z8 hc hr =>
  have i7:=jQ ty e inf hu hi hs h2 h3 (some ⟨b,ob,none⟩) es.length cap l u hl hh h0 Ak hul o9 m.w;have wu:n0=a5:=by
   cases es with
   | nil=>exact absurd rfl lg
   | cons q r=>rw[<-z8 q (by simp),hz q (by simp)]
  subst wu;by_cases w4:u.toNat-l.toNat=0
  ·have:(es.take u.toNat).drop l.toNat=[]:=by
    apply List.eq_nil_of_length_eq_zero;simp;omega
   rw[this];refine GX hm (u := .slice (if cap=l.toNat then some ⟨b,ob,none⟩ else (some (⟨b,ob,none⟩:Addr)).map (·.add (l.toNat*inf.size))) 0 (cap-l.toNat)) ?_ (.ca (.one (.rd (Rd.dm lt _ _))));simp only[execOp,e6,q5,Sem.run_bind,Option.map_none,i7];rw[w4];rfl
  ·have hlen:((es.take u.toNat).drop l.toNat).length=u.toNat-l.toNat:=by simp;omega
   have g6 : ∀ i,i<u.toNat-l.toNat->((es.take u.toNat).drop l.toNat)[i]? = es[l.toNat+i]? := λ i i5=>by
    rw[List.getElem?_drop,List.getElem?_take,if_pos (by omega)]
   refine GX hm (u := .slice (some ⟨b,ob+l.toNat*n0,none⟩) ((es.take u.toNat).drop l.toNat).length (cap-l.toNat)) ?_ (.ca (.one (.rd (.sl lt _ b (ob+l.toNat*n0) n0 (cap-l.toNat) (λ i j=>uu (l.toNat+i) j) (λ e=>w4 (by rw[<-hlen,e];rfl)) hp hR (by rw[hlen];omega) (λ q hq=>z8 q (List.mem_of_mem_take (List.mem_of_mem_drop hq))) (λ i q i5 j c hj => ?_) (λ i q i5 j c hj => ?_)))))
   ·simp only[execOp,e6,q5,Sem.run_bind,Option.map_none,i7]
    rw[if_neg (by omega),hlen,m9];simp only[Option.map_some,KN];rfl
   ·have hil:i<u.toNat-l.toNat:=by rw[<-hlen];exact (zS i5).1
    rw[g6 i hil]at i5;rw[show ob+l.toNat*n0+(i*n0+j)=ob+((l.toNat+i)*n0+j) by rw[Nat.add_mul];omega];exact hc _ q i5 j c hj
   ·have hil:i<u.toNat-l.toNat:=by rw[<-hlen];exact (zS i5).1
    rw[g6 i hil]at i5;exact hr _ q i5 j c hj
structure aV (B:Nat) (S:Nat->Prop) (m:M) (a5:Nat) (ys:List (List AV)) (ad:Option Addr) (news:List Value):Prop where
 len:news.length=ys.length*a5
 cells : ∀ b,ad=some b -> ∀ j v,news[j]? = some v->m.w.cell? (b.add j)=some v
 some_:ys≠[]->ad.isSome=true
 rel : ∀ i cs,ys[i]? = some cs -> ∀ j c,cs[j]? = some c -> ∃ u,news[i*a5+j]? = some u/\CC B S m c u
theorem Zq (a5 i j:Nat) (h:j<a5):(i*a5+j)/a5=i/\(i*a5+j)%a5=j:=by
 constructor
 ·rw[Nat.add_comm,Nat.add_mul_div_right _ _ (by omega),Nat.div_eq_of_lt h,Nat.zero_add]
 ·rw[Nat.add_comm,Nat.add_mul_mod_self_right,Nat.mod_eq_of_lt h]
theorem cI (hm:DJ B S w0 m) {av:AV} {v:Value} (hc:CV B S m av v) {ys:List (List AV)} (he:G4 m.own av=some ys) {a5:Nat} (hz : ∀ e∈ys,e.length=a5) (h0:0<a5) :
  ∃ ad cap news,v = .slice ad ys.length cap/\aV B S m a5 ys ad news:=by
 cases av with
 | sl l es =>
  simp only[G4,Option.some.injEq]at he;subst he;cases gR hc with
  | dm _ ad cap=>exact ⟨ad,cap,[],rfl,by simp,λ b _ j v hv=>by simp at hv,λ h=>absurd rfl h,λ i cs hi=>by simp at hi⟩
  | sl _ _ b ob n0 cap uu lg hp hR o9 z8 hcl hr =>
   have wu:n0=a5:=by
    cases es with
    | nil=>exact absurd rfl lg
    | cons q r=>rw[<-z8 q (by simp),hz q (by simp)]
   subst wu;refine ⟨some ⟨b,ob,none⟩,cap,(List.range (es.length*n0)).map (λ k=>uu (k/n0) (k%n0)),rfl,by simp,λ b' e7 j v hv => ?_,λ_=>rfl,λ i cs hi j c hj => ?_⟩
   ·obtain rfl:(⟨b,ob,none⟩:Addr)=b':=by simpa using e7
    rw[List.getElem?_map]at hv;have hjl:j<es.length*n0:=by
     rcases Nat.lt_or_ge j (es.length*n0) with h|h
     ·exact h
     ·rw[List.getElem?_eq_none (by simpa using h)]at hv;cases hv
    rw[List.getElem?_range hjl]at hv;simp only[Option.map_some,Option.some.injEq]at hv;subst hv;have hd:j/n0<es.length:=Nat.div_lt_of_lt_mul (by rw[Nat.mul_comm];exact hjl);have Gj:j%n0<n0:=Nat.mod_lt _ h0;have u6:(es[j/n0]).length=n0:=z8 _ (List.getElem_mem hd);have:=hcl (j/n0) _ (zE hd) (j%n0) _ (zE (by rw[u6];exact Gj));rw[KN,<-this];congr 2;have:=Nat.div_add_mod j n0;rw[Nat.mul_comm]at this;omega
   ·have hjl:j<n0:=by rw[<-z8 cs (zM hi)];exact (zS hj).1
    have hil:i<es.length:=(zS hi).1;have e9:i*n0+j<es.length*n0:=by
     have:(i+1)*n0<=es.length*n0:=Nat.mul_le_mul_right _ hil
     rw[Nat.succ_mul]at this;omega
    obtain ⟨e1,e2⟩:=Zq n0 i j hjl;refine ⟨uu i j,?_,.rd (hr i cs hi j c hj)⟩;rw[List.getElem?_map,List.getElem?_range e9];simp [e1,e2]
 | nil =>
  simp only[G4,Option.some.injEq]at he;subst he;exact ⟨none,0,[],U0 hc,by simp,λ b hb=>(by cases hb),λ h=>absurd rfl h,λ i cs hi=>by simp at hi⟩
 | row s t z off len =>
  obtain ⟨ad,cap,hv,ht,w4,fr,ha,hb⟩:=XP hc;simp only[G4]at he;cases g6:m.own.get s t with
  | none=>simp [g6]at he
  | some b =>
   simp only[g6]at he;split at he
   ·rename_i hle
    obtain ⟨hle,cr⟩:=hle;obtain rfl:=Option.some.inj he;have hyl:((b.es.drop off).take len).length=len:=by simp;omega
    obtain ⟨_,hor⟩:=hb b g6;by_cases hl0:len=0
    ·subst hl0
     refine ⟨ad,cap,[],by simpa using hv,by simp,λ b _ j v hv=>by simp at hv,λ h=>absurd (by simp) h,λ i cs hi=>by simp at hi⟩
    ·rcases hor with ⟨h1,_⟩|⟨g,arr,e',hg,dh,Ah,AsF⟩
     ·exact absurd h1 hl0
     ·obtain ⟨z8,hmat⟩:=hm.blk s t b g6
      rw[hg]at hmat;obtain ⟨hB,gy,e2,kt,hcc⟩:=hmat;rw[Ah]at kt;obtain ⟨rfl,rfl⟩:arr=gy/\e'=e2:=by simpa using kt
      have hez:a5=z:=by
       have e9:off<b.es.length:=by omega
       have h1:b.es[off]∈(b.es.drop off).take len:=by
        have:((b.es.drop off).take len)[0]? = some b.es[off]:=by
         rw[List.getElem?_take,if_pos (by omega),List.getElem?_drop];simp [e9]
        exact zM this
       rw[<-hz _ h1,z8 _ (List.getElem_mem e9),cr]
      subst hez;have m9:off*a5+len*a5<=arr.size:=by
       have:(off+len)*a5<=(off+cap)*a5:=Nat.mul_le_mul_right _ (by omega)
       rw[Nat.add_mul]at this;omega
      refine ⟨ad,cap,(arr.toList.drop (off*a5)).take (len*a5),by rw[hyl];exact hv,by rw[hyl];simp;omega,λ b' e7 j v je => ?_,λ_=>by rw[dh];rfl,λ i cs hi j c hj => ?_⟩
      ·rw[dh]at e7
       obtain rfl:(⟨g,off*a5,none⟩:Addr)=b':=by simpa using e7
       rw[List.getElem?_take]at je;split at je
       ·rw[List.getElem?_drop]at je
        rw[KN,gC Ah];simpa using je
       ·cases je
      ·rw[List.getElem?_take]at hi
       split at hi
       ·rename_i hil
        rw[List.getElem?_drop]at hi;have hjl:j<a5:=by rw[<-cr,<-z8 cs (zM hi)];exact (zS hj).1
        obtain ⟨u,hu,w6⟩:=hcc (off+i) cs hi j c hj;refine ⟨u,?_,w6⟩;have e9:i*a5+j<len*a5:=by
         have:(i+1)*a5<=len*a5:=Nat.mul_le_mul_right _ hil
         rw[Nat.succ_mul]at this;omega
        rw[List.getElem?_take,if_pos e9,List.getElem?_drop,<-hu,cr];simp only[Array.getElem?_toList];congr 1;rw[Nat.add_mul];omega
       ·cases hi
   ·cases he
 | w7 v' =>
  cases v' with
  | bool b =>
   simp only[G4,Option.some.injEq]at he;subst he;obtain ⟨ad,cap,hv,_⟩:=vR hc;exact ⟨ad,cap,[],hv,by simp,λ b' e7 j v je=>by simp at je,λ h=>absurd rfl h,λ i cs hi=>by simp at hi⟩
  | _=>simp [G4]at he
 | _=>simp [G4]at he
theorem aV.one {a5:Nat} {ys:List (List AV)} {ad:Option Addr} {news:List Value} (h:aV B S m a5 ys ad news) (h0:0<a5) (hz : ∀ e∈ys,e.length=a5) : ∀ u∈news,u.oneCell'=true:=by
 intro u hu;obtain ⟨k,hk,rfl⟩:=List.getElem_of_mem hu;rw[h.len]at hk;have hd:k/a5<ys.length:=Nat.div_lt_of_lt_mul (by rw[Nat.mul_comm];exact hk);have Gj:k%a5<a5:=Nat.mod_lt _ h0;have u6:(ys[k/a5]).length=a5:=hz _ (List.getElem_mem hd);obtain ⟨u',ag,hc⟩:=h.rel (k/a5) _ (zE hd) (k%a5) _ (zE (by rw[u6];exact Gj));have hkk:k/a5*a5+k%a5=k:=by
  have:=Nat.div_add_mod k a5
  rw[Nat.mul_comm]at this;exact this
 rw[hkk]at ag;obtain rfl:news[k]=u':=by
  have:=(zS ag).2
  exact this
 exact hc.one
theorem aV.src {a5:Nat} {ys:List (List AV)} {ad:Option Addr} {news:List Value} (h:aV B S m a5 ys ad news) (h0:0<a5) (hz : ∀ e∈ys,e.length=a5) {t e:TypeId} (hu:P.underlying t=some (.slice e)) (cap:Nat):Src P a5 t (.slice ad ys.length cap) ys.length news m.w:=by
 cases ad with
 | none =>
  have jn:ys=[]:=by
   cases ys with
   | nil=>rfl
   | cons y r=>exact absurd (h.some_ (by simp)) (by simp)
  subst jn;have hn:news=[]:=List.eq_nil_of_length_eq_zero (by simpa using h.len);subst hn;exact Src.ofNil m.w hu cap
 | some b=>exact Src.ofSlice m.w hu b ys.length cap news h.len (h.cells b rfl) (h.one h0 hz)
theorem Ld (arr:Array Value) (off:Nat) (news:List Value) (h:off+news.length<=arr.size) (p:Nat):(arr.toList.take off++news++arr.toList.drop (off+news.length)).toArray[p]? = if p<off then arr[p]? else if p<off+news.length then news[p-off]? else arr[p]? := by
 simp only[List.getElem?_toArray];rw[kA _ _ _ (by simpa using h)];simp only[Array.getElem?_toList]
theorem AkS (t tx e ex:TypeId) (i:TypeInfo) (ht:P.underlying t=some (.slice e)) (hx:P.underlying tx=some (.slice ex)) (hi:P.info? e=some i) (g off iw jr:Nat) (x:Value) (n:Nat) (news:List Value) (w:World) (hs:Src P i.size tx x n news w) (y8:iw+n<=jr) (arr:Array Value) (e':TypeId)
  (hh:w.heap[g]? = some (.cells arr e' (0,0))) (m9:off+iw*i.size+news.length<=arr.size) (ty:TypeId) :
  (Builtin.append_ #[t,tx] ty #[.slice (some ⟨g,off,none⟩) iw jr,x]).run P w = .ok (.slice (some ⟨g,off,none⟩) (iw+n) jr) (w.setRow g (arr.toList.take (off+iw*i.size)++news++arr.toList.drop (off+iw*i.size+news.length)).toArray):=by
 have hst:=run_storeCells_at (P:=P) g (off+iw*i.size) e' news 0 arr w hh (by omega) hs.one;simp only[Nat.add_zero]at hst;simp [Builtin.append_,run_underlying ht,run_underlying hx,sizeOf,typeInfo,hi,hs.len,y8,hs.cells,KN,hst]
theorem Nk (t tx e ex:TypeId) (i:TypeInfo) (ht:P.underlying t=some (.slice e)) (hx:P.underlying tx=some (.slice ex)) (hi:P.info? e=some i) (ad:Option Addr) (jr:Nat) (x:Value) (w:World) (hs:Src P i.size tx x 0 [] w) (ty:TypeId) :
  (Builtin.append_ #[t,tx] ty #[.slice ad 0 jr,x]).run P w = .ok (.slice ad 0 jr) w:=by
 have hc:=hs.cells;cases ad<;>simp [Builtin.append_,run_underlying ht,run_underlying hx,sizeOf,typeInfo,hi,hs.len,hc,storeCells]
theorem YQ {x y:Operand} {t tx:TypeId} (e6:o.op = .call ⟨.builtin .append,#[x,y],#[t,tx]⟩) {u:Value} {w w':World} (h:(Builtin.append_ #[t,tx] o.type #[a.eval x,a.eval y]).run P w = .ok u w'):(execOp a.eval o).run P w = .ok (.value u) w':=by
 simp [execOp,e6,resolve,invoke,builtin,h]
theorem Nn {x y:Operand} {t:TypeId} (e6:o.op = .call ⟨.builtin .copy,#[x,y],#[t,t]⟩) {u:Value} {w w':World} (h:(Builtin.copy_ #[t,t] o.type #[a.eval x,a.eval y]).run P w = .ok u w'):(execOp a.eval o).run P w = .ok (.value u) w':=by
 simp [execOp,e6,resolve,invoke,builtin,h]
theorem AiK (x9 news:List Value) (z:Array Value) (k p:Nat) (h:p<x9.length+news.length):((x9++news).toArray++Builtin.zeroCells z k)[p]? = (x9++news)[p]? := by
 rw[Array.getElem?_append_left (by simpa using h)];simp
theorem AkN {a5 len:Nat} {xs ys:List (List AV)} {x9 news:List Value} (hxl:xs.length=len) (hol:x9.length=len*a5) (hzx : ∀ e∈xs,e.length=a5)
  (hx : ∀ i cs,xs[i]? = some cs -> ∀ j c,cs[j]? = some c -> ∃ u,x9[i*a5+j]? = some u/\CC B S m c u)
  (hy : ∀ i cs,ys[i]? = some cs -> ∀ j c,cs[j]? = some c -> ∃ u,news[i*a5+j]? = some u/\CC B S m c u) :
  ∀ i cs,(xs++ys)[i]? = some cs -> ∀ j c,cs[j]? = some c -> ∃ u,(x9++news)[i*a5+j]? = some u/\CC B S m c u:=by
 intro i cs hi j c hj;by_cases hil:i<len
 ·rw[List.getElem?_append_left (by omega)]at hi
  obtain ⟨u,hu,hc⟩:=hx i cs hi j c hj;exact ⟨u,by rw[List.getElem?_append_left (by have:=(zS hu).1;omega)];exact hu,hc⟩
 ·rw[List.getElem?_append_right (by omega),hxl]at hi
  obtain ⟨u,hu,hc⟩:=hy (i-len) cs hi j c hj;refine ⟨u,?_,hc⟩;have e1:i*a5=len*a5+(i-len)*a5:=by rw[<-Nat.add_mul];congr 1;omega
  rw[List.getElem?_append_right (by omega),<-hu];congr 1;omega
theorem Jh {s z n cap:Nat} {es:List (List AV)} {w':World} {g t:Nat} {arr:Array Value} {e:TypeId} (hz:0<z) (hn:n<=cap) (hg:w'.heap[g]? = some (.cells arr e (0,0))) (hc:cap*z<=arr.size) :
  CV B S ⟨c9 m s (some g),m.own.put s (((m.own s).l8 t none).new ⟨z,es⟩),w'⟩ (.row s (m.own.c8 s) z 0 n) (.slice (some ⟨g,0,none⟩) n cap):=by
 refine .ca (.one (.row s (m.own.c8 s) z 0 n _ cap ?_ hz hn (λ_=>rfl) λ b' e7=>⟨?_,.inr ⟨g,arr,e,?_,by simp,hg,by simpa using hc⟩⟩))
 ·show _<BT.c8 _ s
  rw[gN];simp
 ·change BT.get _ s _=some b' at e7
  rw[X0,if_pos ⟨rfl,rfl⟩]at e7;obtain rfl:(⟨z,es⟩:GJ)=b':=by simpa using e7
  rfl
 ·simp [c9]
theorem Xt (hm:DJ B S w0 m) (ob:Obj):Below B w0 (m.w.drew.alloc ob):=hm.below.drew.alloc (by simpa using hm.size) ob
theorem wL (hm:DJ B S w0 m) (hs:EM B S m ρ a.eval) {s a5 bytes:Nat} {x' y':B8} (h:CX P num o.op (.app s a5 bytes x' y')=true) {ys:List (List AV)} (hy:G4 m.own (ρ y')=some ys) (hz : ∀ e∈ys,e.length=a5) {s' t len:Nat} {b:GJ} (hx:ρ x' = .row s' t a5 0 len) (g6:m.own.get s' t=some b)
  (cr:b.a5=a5) (hle:len<=b.es.length) (y8:(len+ys.length)*bytes<=FR) (pz:len+ys.length<=9223372036854775807) :
  EP B S w0 P o a m (.w8 (.row s' (m.own.c8 s') a5 0 (len+ys.length)) (m.own.put s' (((m.own s').l8 t none).new ⟨a5,b.es.take len++ys⟩))):=by
 obtain ⟨x,y,ty,e,i,z,tx,ex,e6,h1,h2,hu,hi,m9,ig,w4,z8,hne,mj⟩:=Kf h;have h0:0<a5:=Nat.pos_of_ne_zero hne;obtain ⟨ad,cap,q5,ht,_,fr,ha,hb⟩:=XP (hx ▸ hs x x' h1);obtain ⟨fb,u4,news,im,u6⟩:=cI hm (hs y y' h2) hy hz h0;have ft:Src P i.size tx (.slice fb ys.length u4) ys.length news m.w:=by rw[m9];exact u6.src h0 hz mj u4
 obtain ⟨hbb,hmat⟩:=hm.blk s' t b g6;obtain ⟨_,hor⟩:=hb b g6;have htl:(b.es.take len).length=len:=by simp;omega
 have pe : ∀ q∈b.es.take len++ys,q.length=a5:=λ q hq=>by
  rcases List.mem_append.1 hq with hq|hq
  ·rw[<-cr];exact hbb q (List.mem_of_mem_take hq)
  ·exact hz q hq
 intro K Q hK;by_cases kn:len+ys.length<=cap
 ·rcases hor with ⟨hl0,hc0⟩|⟨g,arr,e',hg,dh,hh,uo⟩
  ·have jn:ys=[]:=List.eq_nil_of_length_eq_zero (by omega)
   subst jn;subst hl0 hc0;have om:news=[]:=List.eq_nil_of_length_eq_zero (by simpa using u6.len);subst om;have i7:=Nk ty tx e ex i hu mj hi ad 0 (.slice fb 0 u4) m.w (by simpa using ft) o.type;obtain ⟨k1,k2⟩:=pA hm s' t b ⟨a5,b.es.take 0++[]⟩ g6 none m.w hm.below (Nat.le_refl _) (λ_ _ _=>rfl) (by simp) (by simp) (by simp);refine NR (YQ e6 (by rw[q5,im];simpa using i7)) (hK _ ⟨c9 m s' none,m.own.put s' (((m.own s').l8 t none).new ⟨a5,b.es.take 0++[]⟩),m.w⟩ rfl k1 k2 (.ca (.one (.row s' (m.own.c8 s') a5 0 0 ad 0 ?_ h0 (Nat.le_refl _) (λ h=>by omega) λ b' e7=>⟨?_,.inl ⟨rfl,rfl⟩⟩))))
   ·show _<BT.c8 _ s'
    rw[gN];simp
   ·change BT.get _ s' _=some b' at e7
    rw[X0,if_pos ⟨rfl,rfl⟩]at e7;obtain rfl:(⟨a5,b.es.take 0++[]⟩:GJ)=b':=by simpa using e7
    rfl
  ·have qh:ad=some ⟨g,0,none⟩:=by simpa using dh
   rw[hg]at hmat;obtain ⟨hB,gy,e2,kt,hcc⟩:=hmat;rw[hh]at kt;obtain ⟨rfl,rfl⟩:arr=gy/\e'=e2:=by simpa using kt
   have mh:news.length=ys.length*a5:=u6.len;have hbound:len*a5+news.length<=arr.size:=by
    have:(len+ys.length)*a5<=(0+cap)*a5:=Nat.mul_le_mul_right _ (by omega)
    rw[Nat.add_mul]at this;omega
   have i7:=AkS ty tx e ex i hu mj hi g 0 len cap (.slice fb ys.length u4) ys.length news m.w ft kn arr e' hh (by rw[m9];omega) o.type;rw[m9,Nat.zero_add]at i7;generalize bp:(arr.toList.take (len*a5)++news++arr.toList.drop (len*a5+news.length)).toArray=m4 at i7;have x7 : ∀ p,m4[p]? = if p<len*a5 then arr[p]? else if p<len*a5+news.length then news[p-len*a5]? else arr[p]? := λ p=>by rw[<-bp];exact Ld arr (len*a5) news hbound p
   have dc:m4.size=arr.size:=by rw[<-bp];simp;omega
   obtain ⟨k1,k2⟩:=pA hm s' t b ⟨a5,b.es.take len++ys⟩ g6 (some g) (m.w.setRow g m4) (lG hm hB m4) (by simp) (λ k _ lg=>setRow_other _ _ _ _ (λ e=>lg (e ▸ hg))) pe (by simp) (λ g' dw=>by
    obtain rfl:g=g':=by simpa using dw
    refine ⟨hB,.inr hg,m4,e',setRow_heap _ _ _ _ _ _ hh,λ i' cs i5 j c hj => ?_⟩;show ∃ u,m4[i'*a5+j]? = some u/\_;by_cases hil:i'<len
    ·rw[List.getElem?_append_left (by omega),List.getElem?_take,if_pos hil]at i5
     have hjl:j<a5:=by rw[<-cr,<-hbb cs (zM i5)];exact (zS hj).1
     obtain ⟨u,ag,w6⟩:=hcc i' cs i5 j c hj;refine ⟨u,?_,w6⟩;have:(i'+1)*a5<=len*a5:=Nat.mul_le_mul_right _ hil;rw[Nat.succ_mul]at this;rw[x7,if_pos (by omega),<-ag,cr]
    ·rw[List.getElem?_append_right (by omega),htl]at i5
     obtain ⟨u,ag,w6⟩:=u6.rel (i'-len) cs i5 j c hj;refine ⟨u,?_,w6⟩;have hul:=(zS ag).1;have e1:i'*a5=len*a5+(i'-len)*a5:=by rw[<-Nat.add_mul];congr 1;omega
     rw[x7,if_neg (by omega),if_pos (by omega),<-ag];congr 1;omega)
   exact NR (YQ e6 (by rw[q5,im,qh];exact i7)) (hK _ ⟨c9 m s' (some g),m.own.put s' (((m.own s').l8 t none).new ⟨a5,b.es.take len++ys⟩),m.w.setRow g m4⟩ rfl k1 k2 (Jh h0 kn (setRow_heap _ _ _ _ _ _ hh) (by rw[dc];simpa using uo)))
 ·have oh:cap<len+ys.length:=by omega
  obtain ⟨x9,hol,hold,Gw⟩ : ∃ x9:List Value,x9.length=len*a5/\(Builtin.firstCells i.size len (.slice ad len cap)).run P m.w.drew = .ok x9.toArray m.w.drew/\(∀ i' cs,(b.es.take len)[i']? = some cs -> ∀ j c,cs[j]? = some c -> ∃ u,x9[i'*a5+j]? = some u/\CC B S m c u):=by
   rcases hor with ⟨hl0,hc0⟩|⟨g,arr,e',hg,dh,hh,uo⟩
   ·subst hl0
    refine ⟨[],by simp,?_,λ i' cs i5=>by simp at i5⟩;cases ad with
    | none=>exact run_firstCells_none m.w.drew i.size 0 0 cap
    | some sf=>exact run_firstCells_some m.w.drew i.size 0 sf 0 cap [] (by simp) (λ j v hv=>by simp at hv)
   ·have qh:ad=some ⟨g,0,none⟩:=by simpa using dh
    rw[hg]at hmat;obtain ⟨hB,gy,e2,kt,hcc⟩:=hmat;rw[hh]at kt;obtain ⟨rfl,rfl⟩:arr=gy/\e'=e2:=by simpa using kt
    have hcl:len*a5<=arr.size:=by
     have:len*a5<=(0+cap)*a5:=Nat.mul_le_mul_right _ (by omega)
     omega
    refine ⟨arr.toList.take (len*a5),by simp;omega,?_,λ i' cs i5 j c hj => ?_⟩
    ·rw[qh]
     refine run_firstCells_some m.w.drew i.size len ⟨g,0,none⟩ len cap _ (by rw[m9];simp;omega) (λ j v hv => ?_);rw[List.getElem?_take]at hv;split at hv
     ·rw[KN,gC (w:=m.w.drew) (show m.w.heap[g]? = _ from hh)]
      simpa using hv
     ·cases hv
    ·rw[List.getElem?_take]at i5
     split at i5
     ·rename_i hil
      have hjl:j<a5:=by rw[<-cr,<-hbb cs (zM i5)];exact (zS hj).1
      obtain ⟨u,ag,w6⟩:=hcc i' cs i5 j c hj;refine ⟨u,?_,w6⟩;have:(i'+1)*a5<=len*a5:=Nat.mul_le_mul_right _ hil;rw[Nat.succ_mul]at this;rw[List.getElem?_take,if_pos (by omega),<-ag,cr];simp
     ·cases i5
  have i7:=run_append_grow_src (P:=P) m.w ty tx o.type e i z hu hi w4 ad len cap x9 hold (.slice fb ys.length u4) ys.length news ft oh (by omega) (growslice_fits oh (by rw[ig];exact y8));have mh:news.length=ys.length*a5:=u6.len;have o9:len+ys.length<=grownCap m.w (len+ys.length) cap e:=grownCap_ge _ _ _ _;generalize sj:grownCap m.w (len+ys.length) cap e=gc at i7 o9;have cq:=Xt hm (.cells ((x9++news).toArray++Builtin.zeroCells z.cells (gc-(len+ys.length))) e);have ek:(m.w.drew.alloc (.cells ((x9++news).toArray++Builtin.zeroCells z.cells (gc-(len+ys.length))) e)).heap[m.w.heap.size]? = some (.cells ((x9++news).toArray++Builtin.zeroCells z.cells (gc-(len+ys.length))) e (0,0)):=heap_alloc_new m.w.drew _;obtain ⟨k1,k2⟩:=pA hm s' t b ⟨a5,b.es.take len++ys⟩ g6 (some m.w.heap.size) _ cq (by simp) (λ k hk _=>Below.heap_alloc m.w.drew _ k hk) pe (by simp) (λ g' dw=>by
   obtain rfl:m.w.heap.size=g':=by simpa using dw
   refine ⟨hm.size,.inl (Nat.le_refl _),_,e,ek,λ i' cs i5 j c hj => ?_⟩;obtain ⟨u,ag,w6⟩:=AkN htl hol (λ q hq=>by rw[<-cr];exact hbb q (List.mem_of_mem_take hq)) Gw u6.rel i' cs i5 j c hj;refine ⟨u,?_,w6⟩;rw[AiK _ _ _ _ _ (by have:=(zS ag).1;simpa using this)];exact ag)
  refine NR (YQ e6 (by rw[q5,im];exact i7)) (hK _ ⟨c9 m s' (some m.w.heap.size),m.own.put s' (((m.own s').l8 t none).new ⟨a5,b.es.take len++ys⟩),_⟩ rfl k1 k2 (Jh h0 o9 ek ?_));have ml:(Builtin.zeroCells z.cells (gc-(len+ys.length))).size=(gc-(len+ys.length))*a5:=by simp [Builtin.zeroCells,z8]
  rw[Array.size_append,ml];simp only[List.size_toArray,List.length_append,hol,mh];rw[<-Nat.add_mul,<-Nat.add_mul];exact Nat.mul_le_mul_right _ (by omega)
theorem Zy (hm:DJ B S w0 m) (hs:EM B S m ρ a.eval) {s a5 bytes:Nat} {x' y':B8} (h:CX P num o.op (.app s a5 bytes x' y')=true) {ys:List (List AV)} (hy:G4 m.own (ρ y')=some ys) (hz : ∀ e∈ys,e.length=a5) (hx:ρ x' = .nil)
  (y8:ys.length*bytes<=FR) (pz:ys.length<=9223372036854775807) :
  EP B S w0 P o a m (.w8 (.row s (m.own.c8 s) a5 0 ys.length) (m.own.put s ((m.own s).new ⟨a5,ys⟩))):=by
 obtain ⟨x,y,ty,e,i,z,tx,ex,e6,h1,h2,hu,hi,m9,ig,w4,z8,hne,mj⟩:=Kf h;have h0:0<a5:=Nat.pos_of_ne_zero hne;have q5:=U0 (hx ▸ hs x x' h1);obtain ⟨fb,u4,news,im,u6⟩:=cI hm (hs y y' h2) hy hz h0;have ft:Src P i.size tx (.slice fb ys.length u4) ys.length news m.w:=by rw[m9];exact u6.src h0 hz mj u4
 intro K Q hK;by_cases jn:ys=[]
 ·subst jn
  have om:news=[]:=List.eq_nil_of_length_eq_zero (by simpa using u6.len);subst om;have i7:=Nk ty tx e ex i hu mj hi none 0 (.slice fb 0 u4) m.w (by simpa using ft) o.type;obtain ⟨k1,k2⟩:=Ov hm s a5;refine NR (YQ e6 (by rw[q5,im];simpa using i7)) (hK _ ⟨c9 m s none,m.own.put s ((m.own s).new ⟨a5,[]⟩),m.w⟩ rfl k1 k2 (.ca (.one (.row s (m.own.c8 s) a5 0 0 none 0 ?_ h0 (Nat.le_refl _) (λ h=>by omega) λ b' e7=>⟨?_,.inl ⟨rfl,rfl⟩⟩))))
  ·show _<BT.c8 _ s
   rw[O1];simp
  ·change BT.get _ s _=some b' at e7
   rw[JB,if_pos ⟨rfl,rfl⟩]at e7;obtain rfl:(⟨a5,[]⟩:GJ)=b':=by simpa using e7
   rfl
 ·have vk:0<ys.length:=List.length_pos_iff.2 jn
  have i7:=run_append_grow_src (P:=P) m.w ty tx o.type e i z hu hi w4 none 0 0 [] (run_firstCells_none m.w.drew i.size 0 0 0) (.slice fb ys.length u4) ys.length news ft (by omega) (by omega) (growslice_fits (by omega) (by rw[ig,Nat.zero_add];exact y8));simp only[Nat.zero_add,List.nil_append]at i7;have mh:news.length=ys.length*a5:=u6.len;have o9:ys.length<=grownCap m.w ys.length 0 e:=grownCap_ge _ _ _ _;generalize sj:grownCap m.w ys.length 0 e=gc at i7 o9;have hd:Below m.w.heap.size m.w m.w.drew:=(Below.refl _ _).drew;obtain ⟨cu,he1⟩:=grow hm hd;obtain ⟨k1,k2⟩:=bM cu s ⟨a5,ys⟩ (news.toArray++Builtin.zeroCells z.cells (gc-ys.length)) e hz (λ i' cs i5 j c hj=>by
   obtain ⟨u,ag,w6⟩:=u6.rel i' cs i5 j c hj;refine ⟨u,?_,he1.cc w6⟩;have hul:=(zS ag).1;show (news.toArray++Builtin.zeroCells z.cells (gc-ys.length))[i'*a5+j]? = some u;rw[Array.getElem?_append_left (by simpa using hul)];simpa using ag)
  have ml:(Builtin.zeroCells z.cells (gc-ys.length)).size=(gc-ys.length)*a5:=by simp [Builtin.zeroCells,z8]
  refine NR (YQ e6 (by rw[q5,im];exact i7)) (hK _ ⟨c9 ⟨m.ν,m.own,m.w.drew⟩ s (some m.w.drew.heap.size),m.own.put s ((m.own s).new ⟨a5,ys⟩),_⟩ rfl k1 (he1.trans k2) (iV (m:=⟨m.ν,m.own,m.w.drew⟩) h0 o9 (heap_alloc_new m.w.drew _) ?_));rw[Array.size_append,ml];simp only[List.size_toArray,mh];rw[<-Nat.add_mul];exact Nat.mul_le_mul_right _ (by omega)
theorem Zx (hm:DJ B S w0 m) (hs:EM B S m ρ a.eval) {s a5 bytes:Nat} {x' y':B8} (h:CX P num o.op (.gx s a5 bytes x' y')=true) {ys:List (List AV)} (hy:G4 m.own (ρ y')=some ys) (hz : ∀ e∈ys,e.length=a5) (hx:ρ x' = .nil)
  (vk:0<ys.length) (y8:ys.length*bytes<=FR) (pz:ys.length<=9223372036854775807) :
  EP B S w0 P o a m (.new s ⟨a5,ys⟩ (λ t => .row s t a5 0 ys.length)):=by
 obtain ⟨x,y,ty,e,i,z,tx,ex,e6,h1,h2,hu,hi,m9,ig,w4,z8,hne,mj⟩:=Ajl h;have h0:0<a5:=Nat.pos_of_ne_zero hne;have q5:=U0 (hx ▸ hs x x' h1);obtain ⟨fb,u4,news,im,u6⟩:=cI hm (hs y y' h2) hy hz h0;have ft:Src P i.size tx (.slice fb ys.length u4) ys.length news m.w:=by rw[m9];exact u6.src h0 hz mj u4
 intro K Q hK;have i7:=run_append_grow_src (P:=P) m.w ty tx o.type e i z hu hi w4 none 0 0 [] (run_firstCells_none m.w.drew i.size 0 0 0) (.slice fb ys.length u4) ys.length news ft (by omega) (by omega) (growslice_fits (by omega) (by rw[ig,Nat.zero_add];exact y8));simp only[Nat.zero_add,List.nil_append]at i7;have mh:news.length=ys.length*a5:=u6.len;have o9:ys.length<=grownCap m.w ys.length 0 e:=grownCap_ge _ _ _ _;generalize sj:grownCap m.w ys.length 0 e=gc at i7 o9;have hd:Below m.w.heap.size m.w m.w.drew:=(Below.refl _ _).drew;obtain ⟨cu,he1⟩:=grow hm hd;obtain ⟨k1,k2⟩:=bM cu s ⟨a5,ys⟩ (news.toArray++Builtin.zeroCells z.cells (gc-ys.length)) e hz (λ i' cs i5 j c hj=>by
  obtain ⟨u,ag,w6⟩:=u6.rel i' cs i5 j c hj;refine ⟨u,?_,he1.cc w6⟩;have hul:=(zS ag).1;show (news.toArray++Builtin.zeroCells z.cells (gc-ys.length))[i'*a5+j]? = some u;rw[Array.getElem?_append_left (by simpa using hul)];simpa using ag)
 have ml:(Builtin.zeroCells z.cells (gc-ys.length)).size=(gc-ys.length)*a5:=by simp [Builtin.zeroCells,z8]
 refine NR (YQ e6 (by rw[q5,im];exact i7)) (hK _ ⟨c9 ⟨m.ν,m.own,m.w.drew⟩ s (some m.w.drew.heap.size),m.own.put s ((m.own s).new ⟨a5,ys⟩),_⟩ rfl k1 (he1.trans k2) (iV (m:=⟨m.ν,m.own,m.w.drew⟩) h0 o9 (heap_alloc_new m.w.drew _) ?_));rw[Array.size_append,ml];simp only[List.size_toArray,mh];rw[<-Nat.add_mul];exact Nat.mul_le_mul_right _ (by omega)
theorem AkT (w:World) (t tx ty e:TypeId) (i:TypeInfo) (z:Value) (ht:P.underlying t=some (.slice e)) {k:IntKind} (hk:P.underlying tx=some (.int k)) (hi:P.info? e=some i) (hz:i.zero=some z) (k':IntKind) (n:Nat)
  (hn:0<n) (pz:(n:Int)<=9223372036854775807) (Pq:n*i.bytes<=FR) (hne:i.size≠0) :
  (Builtin.append_ #[t,tx] ty #[.slice none 0 0,.int k' n]).run P w =
   .ok (.slice (some ⟨w.heap.size,0,none⟩) n (grownCap w n 0 e))
    (w.drew.alloc (.cells (Builtin.zeroCells z.cells n++Builtin.zeroCells z.cells (grownCap w n 0 e-n)) e)):=by
 have kn:=growslice_fits (old:=0) (need:=n) (bytes:=i.bytes) hn Pq;have h1 : ¬ (n:Int)<0:=by omega
 have h2 : ¬ n=0:=by omega
 have h3 : ¬ (9223372036854775807<(n:Int)):=by omega
 have h5 : ¬ (281474976710656<Builtin.nextslicecap n 0*i.bytes):=by omega
 have h6 : ¬ ((281474976710656:Int)<(n:Int)*(i.bytes:Int)):=by
  have Fe:n*i.bytes<=140737488355328:=Pq;have h7:=Int.ofNat_le.2 Fe;rw[Int.natCast_mul]at h7;omega
 have hA : ∀ w':World,(asIntOf (.int k' n)).run P w' = .ok (k',(n:Int)) w':=λ w'=>rfl
 have e1:IntKind.i64.wrap (n:Int)=n:=by rw[IntKind.wrap_i64];omega
 generalize hw:IntKind.i64.wrap (n:Int)=q at e1;subst e1;simp [Builtin.append_,run_underlying ht,run_underlying hk,sizeOf,typeInfo,zeroValue,hi,hz,asInt,hA,hw,h1,h2,h3,h5,h6,hne,Question.forced,Builtin.firstCells,newRow,grownCap];intro h;rcases Nat.mul_eq_zero.1 h with h|h
 ·exact absurd h h2
 ·exact absurd h hne
theorem Zz (hm:DJ B S w0 m) (hs:EM B S m ρ a.eval) {s a5 bytes:Nat} {x' y':B8} (h:CX P num o.op (.gi s a5 bytes x' y')=true) (hx:ρ x' = .nil) {k':IntKind} {n:Int} (hy:ρ y' = .int k' n)
  (hn:0<n) (y8:n*bytes<=FR) (pz:n<=9223372036854775807) :
  EP B S w0 P o a m (.new s ⟨a5,[]⟩ (λ t => .row s t a5 0 n.toNat)):=by
 obtain ⟨x,y,ty,e,i,z,tx,k,e6,h1,h2,hu,hi,m9,ig,w4,z8,hne,mj⟩:=Ajn h;have h0:0<a5:=Nat.pos_of_ne_zero hne;have q5:=U0 (hx ▸ hs x x' h1);have hey:=J6 (hy ▸ hs y y' h2);obtain ⟨q,rfl⟩ : ∃ q:Nat,n=q:=⟨n.toNat,by omega⟩;simp only[Int.toNat_natCast];intro K Q hK;have i7:=AkT (P:=P) m.w ty tx o.type e i z hu mj hi w4 k' q (by omega) pz (by
  rw[ig];rw[<-Int.natCast_mul]at y8;exact Int.ofNat_le.1 y8) (by rw[m9];exact hne)
 have o9:q<=grownCap m.w q 0 e:=grownCap_ge _ _ _ _;generalize sj:grownCap m.w q 0 e=gc at i7 o9;have hd:Below m.w.heap.size m.w m.w.drew:=(Below.refl _ _).drew;obtain ⟨cu,he1⟩:=grow hm hd;obtain ⟨k1,k2⟩:=bM cu s ⟨a5,[]⟩ (Builtin.zeroCells z.cells q++Builtin.zeroCells z.cells (gc-q)) e (by simp) (λ i' cs i5 j c hj=>by simp at i5);have ml : ∀ n,(Builtin.zeroCells z.cells n).size=n*a5:=λ n=>by simp [Builtin.zeroCells,z8]
 refine NR (YQ e6 (by rw[q5,hey];exact i7)) (hK _ ⟨c9 ⟨m.ν,m.own,m.w.drew⟩ s (some m.w.drew.heap.size),m.own.put s ((m.own s).new ⟨a5,[]⟩),_⟩ rfl k1 (he1.trans k2) (iV (m:=⟨m.ν,m.own,m.w.drew⟩) h0 o9 (heap_alloc_new m.w.drew _) ?_));rw[Array.size_append,ml,ml,<-Nat.add_mul];exact Nat.mul_le_mul_right _ (by omega)
end
end Go.Eng

namespace Go.Eng
open Go.RowKit
section
variable {B:Nat} {S:Nat->Prop} {w0:World} {m:M}
variable {P:Program} {num:Nat->Nat} {o:Oper} {a:Act} {ρ:B8->AV}
theorem AlP (ow:BT) (s t:Nat) (b:GJ) (h:ow.get s t=some b):ow.put s ((ow s).l8 t (some b))=ow:=by
 funext s'
 unfold BT.put D9.l8;by_cases hs:s'=s
 ·subst hs
  rw[if_pos rfl];unfold BT.get at h;cases hx:ow s' with
  | mk c f =>
   rw[hx]at h;simp only at h;congr;funext t';by_cases ht:t'=t
   ·subst ht;simp [h]
   ·simp [ht]
 ·simp [hs]
theorem Nl (ty e:TypeId) (i:TypeInfo) (hu:P.underlying ty=some (.slice e)) (hi:P.info? e=some i) (ad:Option Addr) (pq Bj:Nat) (fb:Option Addr) (yl yc:Nat) (cs:List Value) (w w':World) (rt:TypeId)
  (hf:(Builtin.firstCells i.size (Nat.min yl pq) (.slice fb yl yc)).run P w = .ok cs.toArray w) (hst : ∀ b,ad=some b->(storeCells b cs).run P w = .ok () w') (hn:ad=none->w'=w) :
  (Builtin.copy_ #[ty,ty] rt #[.slice ad pq Bj,.slice fb yl yc]).run P w = .ok (goInt (Nat.min yl pq)) w':=by
 cases ad with
 | none=>rw[hn rfl];simp [Builtin.copy_,run_underlying hu,sizeOf,typeInfo,hi,Builtin.lenOf,hf]
 | some b=>simp [Builtin.copy_,run_underlying hu,sizeOf,typeInfo,hi,Builtin.lenOf,hf,hst b rfl]
theorem Agw (hm:DJ B S w0 m) (hs:EM B S m ρ a.eval) {a5:Nat} {x' y':B8} (h:CX P num o.op (.ia a5 x' y')=true) {ys:List (List AV)} (hy:G4 m.own (ρ y')=some ys) (hz : ∀ e∈ys,e.length=a5) {s t off len:Nat} {b:GJ} (hx:ρ x' = .row s t a5 off len) (g6:m.own.get s t=some b)
  (cr:b.a5=a5) (hle:off+len<=b.es.length) :
  EP B S w0 P o a m (.w8 (.int .i64 (min ys.length len:Nat)) (m.own.put s ((m.own s).l8 t (some ⟨a5,b.es.take off++ys.take len++b.es.drop (off+min ys.length len)⟩)))):=by
 obtain ⟨x,y,ty,e,i,e6,h1,h2,hu,hi,m9,hne⟩:=Ajz h;have h0:0<a5:=Nat.pos_of_ne_zero hne;obtain ⟨ad,cap,q5,ht,_,fr,ha,hb⟩:=XP (hx ▸ hs x x' h1);obtain ⟨fb,u4,news,im,u6⟩:=cI hm (hs y y' h2) hy hz h0;obtain ⟨hbb,hmat⟩:=hm.blk s t b g6;obtain ⟨_,hor⟩:=hb b g6;have mh:news.length=ys.length*a5:=u6.len;have AsB:min ys.length len*a5<=news.length:=by rw[mh];exact Nat.mul_le_mul_right _ (Nat.min_le_left _ _)
 have kj:(news.take (min ys.length len*a5)).length=min ys.length len*a5:=by simp;omega
 have hf:(Builtin.firstCells i.size (Nat.min ys.length len) (.slice fb ys.length u4)).run P m.w = .ok (news.take (min ys.length len*a5)).toArray m.w:=by
  cases wm:fb with
  | none =>
   have jn:ys=[]:=by
    cases ys with
    | nil=>rfl
    | cons q r=>exact absurd (u6.some_ (by simp)) (by simp [wm])
   subst jn;simp only[List.length_nil,Nat.zero_min,Nat.zero_mul,List.take_zero];have:=run_firstCells_none (P:=P) m.w i.size 0 0 u4;simpa using this
  | some yb =>
   refine run_firstCells_some m.w i.size _ yb ys.length u4 _ (by rw[kj,m9]) (λ j v hv => ?_);rw[List.getElem?_take]at hv;split at hv
   ·exact u6.cells yb wm j v hv
   ·cases hv
 intro K Q hK;by_cases hk:min ys.length len=0
 ·have hc0:news.take (min ys.length len*a5)=[]:=by rw[hk];simp
  have d8:m.own.put s ((m.own s).l8 t (some ⟨a5,b.es.take off++ys.take len++b.es.drop (off+min ys.length len)⟩))=m.own:=by
   have lz:ys.take len=[]:=by
    apply List.eq_nil_of_length_eq_zero;rw[List.length_take];omega
   rw[hk,lz];have:b=⟨a5,b.es.take off++[]++b.es.drop (off+0)⟩:=by
    cases b with
    | mk z es=>simp at cr;subst cr;simp
   rw[<-this];exact AlP _ _ _ _ g6
  have i7:=Nl ty e i hu hi ad len cap fb ys.length u4 _ m.w m.w o.type hf (λ b' _=>by rw[hc0];rfl) (λ_=>rfl);refine NR (Nn e6 (by rw[q5,im];exact i7)) (hK _ m d8.symm hm (FY.refl m) (PP _ _))
 ·rcases hor with ⟨hl0,hc0⟩|⟨g,arr,e',hg,dh,hh,uo⟩
  ·omega
  ·rw[hg]at hmat
   obtain ⟨hB,gy,e2,kt,hcc⟩:=hmat;rw[hh]at kt;obtain ⟨rfl,rfl⟩:arr=gy/\e'=e2:=by simpa using kt
   have hbound:off*a5+(news.take (min ys.length len*a5)).length<=arr.size:=by
    rw[kj,<-Nat.add_mul];exact Nat.le_trans (Nat.mul_le_mul_right _ (by omega)) uo
   have bh : ∀ u∈news.take (min ys.length len*a5),u.oneCell'=true:=λ u ag=>u6.one h0 hz u (List.mem_of_mem_take ag)
   have hst:=run_storeCells_at (P:=P) g (off*a5) e' (news.take (min ys.length len*a5)) 0 arr m.w hh (by omega) bh;simp only[Nat.add_zero]at hst;generalize bp:(arr.toList.take (off*a5)++news.take (min ys.length len*a5)++arr.toList.drop (off*a5+(news.take (min ys.length len*a5)).length)).toArray=m4 at hst;have x7 : ∀ p,m4[p]? = if p<off*a5 then arr[p]? else if p<off*a5+min ys.length len*a5 then (news.take (min ys.length len*a5))[p-off*a5]? else arr[p]? := λ p=>by
    rw[<-bp,Ld arr (off*a5) _ hbound p,kj]
   have dc:m4.size=arr.size:=by rw[<-bp];simp;omega
   obtain ⟨k1,k2⟩:=Oo hm s t b ⟨a5,b.es.take off++ys.take len++b.es.drop (off+min ys.length len)⟩ g6 g hg arr m4 e' hh cr.symm (λ q hq=>by
     rcases List.mem_append.1 hq with hq|hq
     ·rcases List.mem_append.1 hq with hq|hq
      ·rw[<-cr];exact hbb q (List.mem_of_mem_take hq)
      ·exact hz q (List.mem_of_mem_take hq)
     ·rw[<-cr];exact hbb q (List.mem_of_mem_drop hq)) dc
    (λ i' cs i5 j c hj=>by
     show ∃ u,m4[i'*a5+j]? = some u/\_;have hyl:(ys.take len).length=min ys.length len:=by simp;omega
     change (b.es.take off++ys.take len++b.es.drop (off+min ys.length len))[i']? = some cs at i5;have Ho:=hyl;rw[<-Ho,kA _ _ _ (by rw[hyl];omega),hyl]at i5;by_cases sz:i'<off
     ·rw[if_pos sz]at i5
      have hjl:j<a5:=by rw[<-cr,<-hbb cs (zM i5)];exact (zS hj).1
      obtain ⟨u,ag,w6⟩:=hcc i' cs i5 j c hj;have:(i'+1)*a5<=off*a5:=Nat.mul_le_mul_right _ sz;rw[Nat.succ_mul]at this;exact ⟨u,by rw[x7,if_pos (by omega),<-ag,cr],w6⟩
     ·rw[if_neg sz]at i5
      have e1:i'*a5=off*a5+(i'-off)*a5:=by rw[<-Nat.add_mul];congr 1;omega
      by_cases hi2:i'<off+min ys.length len
      ·rw[if_pos hi2,List.getElem?_take,if_pos (by omega)]at i5
       have hjl:j<a5:=by rw[<-hz cs (zM i5)];exact (zS hj).1
       obtain ⟨u,ag,w6⟩:=u6.rel (i'-off) cs i5 j c hj;have h3:(i'-off+1)*a5<=min ys.length len*a5:=Nat.mul_le_mul_right _ (by omega);rw[Nat.succ_mul]at h3;refine ⟨u,?_,w6⟩;rw[x7,if_neg (by omega),if_pos (by omega),List.getElem?_take,if_pos (by omega),<-ag];congr 1;omega
      ·rw[if_neg hi2]at i5
       obtain ⟨u,ag,w6⟩:=hcc i' cs i5 j c hj;have h3:(off+min ys.length len)*a5<=i'*a5:=Nat.mul_le_mul_right _ (by omega);rw[Nat.add_mul]at h3;exact ⟨u,by rw[x7,if_neg (by omega),if_neg (by omega),<-ag,cr],w6⟩)
    (m.w.setRow g m4) (lG hm hB m4) (by simp) (λ k hk=>setRow_other _ _ _ _ hk) (setRow_heap _ _ _ _ _ _ hh)
   have i7:=Nl ty e i hu hi ad len cap fb ys.length u4 _ m.w (m.w.setRow g m4) o.type hf (λ b' e7=>by
    rw[dh]at e7;obtain rfl:(⟨g,off*a5,none⟩:Addr)=b':=by simpa using e7
    exact hst) (λ hn=>by rw[dh]at hn;cases hn)
   exact NR (Nn e6 (by rw[q5,im];exact i7)) (hK _ ⟨m.ν,_,m.w.setRow g m4⟩ rfl k1 k2 (PP _ _))
structure K3 (P:Program) (num:Nat->Nat) (C:Cl):Prop where
 kb : ∀ (f:Nat) (vs:List AV) (r:AV),C.pure f vs=some r -> ∀ (us:Array Value) (w:World),(callFunc (num f) us).run P w = .ok (.enter (num f) us) w
 ic : ∀ (f:Nat) (vs:List AV) (own:BT) (r:AV × BT),C.bu f vs own=some r -> ∀ (us:Array Value) (w:World),(callFunc (num f) us).run P w = .ok (.enter (num f) us) w
 pure : ∀ (f:Nat) (vs:List AV) (r:AV),C.pure f vs=some r -> ∀ (S:Nat->Prop) (w:World) (us:List Value),vs.length=us.length->(∀ (j:Nat) (c:AV) (v:Value),vs[j]? = some c->us[j]? = some v->CA w.heap.size S ⟨λ_ _=>none,BT.emp,w⟩ c v) ->
  Calls P (num f) us.toArray w λ e w' => ∃ u,e = .returned u/\Below w.heap.size w w'/\CV w.heap.size S ⟨λ_ _=>none,BT.emp,w'⟩ r u/\CT r
 bu : ∀ (f:Nat) (vs:List AV) (own:BT) (r:AV) (g7:BT),C.bu f vs own=some (r,g7) -> ∀ (B:Nat) (S:Nat->Prop) (w0:World) (m:M) (us:List Value),m.own=own->DJ B S w0 m->vs.length=us.length->(∀ (j:Nat) (c:AV) (v:Value),vs[j]? = some c->us[j]? = some v->CV B S m c v) ->
  Calls P (num f) us.toArray m.w λ e w' => ∃ u m',e = .returned u/\m'.w=w'/\m'.own=g7/\DJ B S w0 m'/\FY B S m m'/\CV B S m' r u
 num:C.num=num
end
end Go.Eng

namespace Go.Eng
open Go.RowKit
theorem VB {α β:Type} (f:α->Option β) : ∀ {l:List α} {l':List β},l.mapM f=some l'->l.length=l'.length /\ ∀ (i:Nat) (x:α),l[i]? = some x -> ∃ y,l'[i]? = some y/\f x=some y
 | [],l',h=>by
  simp at h;subst h;exact ⟨rfl,λ i x hx=>by simp at hx⟩
 | x::r,l',h=>by
  simp only[List.mapM_cons,Option.bind_eq_bind,Option.pure_def]at h;cases hx:f x with
  | none=>simp [hx]at h
  | some y =>
   cases hr:r.mapM f with
   | none=>simp [hx,hr]at h
   | some r' =>
    simp [hx,hr]at h;subst h;obtain ⟨h1,h2⟩:=VB f hr;refine ⟨by simp [h1],λ i z hz => ?_⟩;cases i with
    | zero=>simp at hz;subst hz;exact ⟨y,rfl,hx⟩
    | succ i=>exact h2 i z (by simpa using hz)
section
variable {B:Nat} {S:Nat->Prop} {w0:World} {m:M}
variable {P:Program} {num:Nat->Nat} {o:Oper} {a:Act} {ρ:B8->AV}
theorem Mp (hm:DJ B S w0 m) (l0:Bool) (R:Bool->Nat->Prop) (hR : ∀ l b,b<m.w.heap.size->safe B S m l b->R l b) (hL : ∀ s t g,live m s t->m.ν s t=some g->R l0 g) :
  ∀ (d:Nat) (c c':AV) (v:Value),snap m.own l0 d c=some c'->CC B S m c v->Rd m.w R c' v:=by
 intro d;induction d with
 | zero =>
  intro c c' v h hc;cases hc with
  | rd hr =>
   have:c'=c:=by cases hr<;>simp [snap]at h<;>exact h.symm
   subst this;exact hr.mono hR (λ_ _ _ _=>rfl)
  | nil=>simp [snap]at h;subst h;exact .dm _ _ _
  | _=>simp [snap]at h
 | succ d ih =>
  intro c c' v h hc;cases hc with
  | rd hr =>
   have:c'=c:=by cases hr<;>simp [snap]at h<;>exact h.symm
   subst this;exact hr.mono hR (λ_ _ _ _=>rfl)
  | nil=>simp [snap]at h;subst h;exact .dm _ _ _
  | ptr=>simp [snap]at h
  | m8=>simp [snap]at h
  | row s t z off len ad cap ht w4 fr ha hb =>
   simp only[snap]at h;cases u6:G4 m.own (.row s t z off len) with
   | none=>simp [u6]at h
   | some es =>
    simp only[u6]at h;cases ct:es.mapM (λ cs:List AV=>cs.mapM (snap m.own l0 d)) with
    | none=>simp [ct]at h
    | some es' =>
     simp [ct]at h;subst h;have Hq:(∀ e∈es,e.length=z)/\es.length=len /\ ∃ b,m.own.get s t=some b:=by
      simp only[G4]at u6;cases g6:m.own.get s t with
      | none=>simp [g6]at u6
      | some b =>
       simp only[g6]at u6;split at u6
       ·rename_i hle
        obtain rfl:=Option.some.inj u6;refine ⟨λ e he => ?_,by simp;omega,b,rfl⟩;rw[<-hle.2];exact (hm.blk s t b g6).1 e (List.mem_of_mem_drop (List.mem_of_mem_take he))
       ·cases u6
     obtain ⟨hz,hlen,b,g6⟩:=Hq;have n8:CV B S m (.row s t z off len) (.slice ad len cap):= .ca (.one (.row s t z off len ad cap ht w4 fr ha hb));obtain ⟨ad2,Bg,news,As,hE⟩:=cI hm n8 u6 hz w4;obtain ⟨rfl,_,rfl⟩:ad=ad2/\len=es.length/\cap=Bg:=by simpa using As
     obtain ⟨hl1,kp⟩:=VB _ ct;by_cases h0:es=[]
     ·subst h0
      have:es'=[]:=List.eq_nil_of_length_eq_zero (by rw[<-hl1];rfl)
      subst this;have:len=0:=by rw[<-hlen];rfl
      subst this;exact .dm _ _ _
     ·obtain ⟨_,hor⟩:=hb b g6
      rcases hor with ⟨AsD,_⟩|⟨g,arr,e',hg,dh,hh,uo⟩
      ·exact absurd (List.eq_nil_of_length_eq_zero (by omega)) h0
      ·rw[dh,<-hlen,hl1]
       refine .sl l0 es' g (off*z) z cap (λ i j=>news.getD (i*z+j) undef) (λ e=>h0 (List.eq_nil_of_length_eq_zero (by rw[hl1,e];rfl))) w4 (hL s t g ⟨b,g6⟩ hg) (by omega) (λ e' di => ?_) (λ i e hi j c hj => ?_) (λ i e hi j c hj => ?_)
       ·obtain ⟨i,hi,rfl⟩:=List.getElem_of_mem di
        have i5:i<es.length:=by omega
        obtain ⟨y,hy,bq⟩:=kp i es[i] (zE i5);have:es'[i]=y:=by
         have:=(zS hy).2;exact this
        rw[this,<-(VB _ bq).1];exact hz _ (List.getElem_mem i5)
       ·have i5:i<es.length:=by rw[hl1];exact (zS hi).1
        obtain ⟨y,hy,bq⟩:=kp i es[i] (zE i5);rw[hi]at hy;obtain rfl:e=y:=by simpa using hy
        obtain ⟨hl2,_⟩:=VB _ bq;have ta:j<(es[i]).length:=by rw[hl2];exact (zS hj).1
        obtain ⟨u,hu,w6⟩:=hE.rel i es[i] (zE i5) j _ (zE ta);have:=hE.cells _ dh (i*z+j) u hu;rw[KN]at this;simp only[List.getD,hu,Option.getD_some];exact this
       ·have i5:i<es.length:=by rw[hl1];exact (zS hi).1
        obtain ⟨y,hy,bq⟩:=kp i es[i] (zE i5);rw[hi]at hy;obtain rfl:e=y:=by simpa using hy
        obtain ⟨hl2,dw⟩:=VB _ bq;have ta:j<(es[i]).length:=by rw[hl2];exact (zS hj).1
        obtain ⟨u,hu,w6⟩:=hE.rel i es[i] (zE i5) j _ (zE ta);obtain ⟨c2,hc2,lh⟩:=dw j _ (zE ta);rw[hj]at hc2;obtain rfl:c=c2:=by simpa using hc2
        simp only[List.getD,hu,Option.getD_some];exact ih _ _ _ lh w6
def DA (w:World) (R:Bool->Nat->Prop) (c:AV) (v:Value):Prop :=
 Rd w R c v \/ ∃ (cs:List AV) (vs:List Value),c = .agg cs/\v = .agg vs.toArray/\cs.length=vs.length /\ ∀ (j:Nat) (x:AV) (u:Value),cs[j]? = some x->vs[j]? = some u->Rd w R x u
theorem jZ (hm:DJ B S w0 m) (l0:Bool) (R:Bool->Nat->Prop) (hR : ∀ l b,b<m.w.heap.size->safe B S m l b->R l b) (hL : ∀ s t g,live m s t->m.ν s t=some g->R l0 g)
  {c c':AV} {v:Value} (h:F6 m.own l0 c=some c') (hc:CV B S m c v):DA m.w R c' v:=by
 cases hc with
 | any v=>simp [F6,snap]at h
 | tup=>simp [F6,snap]at h
 | ca hc=>cases hc with
  | one hc =>
   have h':snap m.own l0 6 c=some c':=by
    cases hc with
    | rd hr=>cases hr<;>simpa [F6] using h
    | _=>simpa [F6] using h
   exact Or.inl (Mp hm l0 R hR hL 6 c c' v h' hc)
  | fn=>simp [F6,snap]at h
  | agg cs vs hcl =>
   simp only[F6]at h;cases hcs:cs.mapM (snap m.own l0 6) with
   | none=>simp [hcs]at h
   | some af =>
    simp [hcs]at h;subst h;obtain ⟨h1,h2⟩:=VB _ hcs;refine Or.inr ⟨af,vs,rfl,rfl,h1.symm.trans hcl.1,λ j x u hx hu => ?_⟩;have hj:j<cs.length:=by rw[h1];exact (zS hx).1
    obtain ⟨y,hy,bq⟩:=h2 j cs[j] (zE hj);rw[hx]at hy;obtain rfl:x=y:=by simpa using hy
    exact Mp hm l0 R hR hL 6 _ _ _ bq (hcl.2 j cs[j] u (zE hj) hu)
def DV (w:World) (R:Bool->Nat->Prop) (c:AV) (v:Value):Prop :=
 DA w R c v \/ ∃ (cs:List AV) (vs:List Value),c = .tup cs/\v = .tuple vs.toArray/\cs.length=vs.length /\ ∀ (j:Nat) (x:AV) (u:Value),cs[j]? = some x->vs[j]? = some u->DA w R x u
theorem Alh (hm:DJ B S w0 m) (l0:Bool) (R:Bool->Nat->Prop) (hR : ∀ l b,b<m.w.heap.size->safe B S m l b->R l b) (hL : ∀ s t g,live m s t->m.ν s t=some g->R l0 g)
  {c c':AV} {v:Value} (h:UH m.own l0 c=some c') (hc:CV B S m c v):DV m.w R c' v:=by
 by_cases ht : ∃ cs,c = .tup cs
 ·obtain ⟨cs,rfl⟩:=ht
  obtain ⟨vs,rfl,hl,hcc⟩:=lZ hc;simp only[UH]at h;cases hcs:cs.mapM (F6 m.own l0) with
  | none=>simp [hcs]at h
  | some af =>
   simp [hcs]at h;subst h;obtain ⟨h1,h2⟩:=VB _ hcs;refine Or.inr ⟨af,vs,rfl,rfl,h1.symm.trans hl,λ j x u hx hu => ?_⟩;have hj:j<cs.length:=by rw[h1];exact (zS hx).1
   obtain ⟨y,hy,bq⟩:=h2 j cs[j] (zE hj);rw[hx]at hy;obtain rfl:x=y:=by simpa using hy
   exact jZ hm l0 R hR hL bq (.ca (hcc j cs[j] u (zE hj) hu))
 ·have h':F6 m.own l0 c=some c':=by
   cases c<;>first|exact h|exact absurd ⟨_,rfl⟩ ht
  exact Or.inl (jZ hm l0 R hR hL h' hc)
theorem DA.ca {B:Nat} {S:Nat->Prop} {m:M} {c:AV} {v:Value} (h:DA m.w (safe B S m) c v):CA B S m c v:=by
 rcases h with h|⟨cs,vs,rfl,rfl,hl,hh⟩
 ·exact .one (.rd h)
 ·exact .agg cs vs ⟨hl,λ j x u hx hu => .rd (hh j x u hx hu)⟩
theorem DV.cv {B:Nat} {S:Nat->Prop} {m:M} {c:AV} {v:Value} (h:DV m.w (safe B S m) c v):CV B S m c v:=by
 rcases h with h|⟨cs,vs,rfl,rfl,hl,hh⟩
 ·exact .ca h.ca
 ·exact .tup cs vs hl λ j x u hx hu=>(hh j x u hx hu).ca
theorem V6 : ∀ {cs:List AV},FG cs -> ∀ (j:Nat) (c:AV),cs[j]? = some c->CT c
 | [],_,j,c,h=>by simp at h
 | x::r,hc,j,c,h=>by
  unfold FG at hc;cases j with
  | zero=>simp at h;subst h;exact hc.1
  | succ j=>exact V6 hc.2 j c (by simpa using h)
theorem lR : ∀ {cs:List (List AV)},IR cs -> ∀ (j:Nat) (c:List AV),cs[j]? = some c->FG c
 | [],_,j,c,h=>by simp at h
 | x::r,hc,j,c,h=>by
  unfold IR at hc;cases j with
  | zero=>simp at h;subst h;exact hc.1
  | succ j=>exact lR hc.2 j c (by simpa using h)
theorem Rd.clean {w:World} {R R':Bool->Nat->Prop} (hR : ∀ b,b<w.heap.size->R false b->R' false b) {c:AV} {v:Value} (h:Rd w R c v) (hc:CT c):Rd w R' c v:=by
 induction h with
 | int k n=>exact .int k n
 | bool b=>exact .bool b
 | str s=>exact .str s
 | dm l a cap=>exact .dm l a cap
 | emp b a cap h=>exact .emp b a cap h
 | sl l es b o a5 cap u hne hp h1 o9 hz hcl hr ih =>
  unfold CT at hc;obtain ⟨rfl,hc⟩:=hc;obtain ⟨e,c,he,hc0⟩:=iD hne hp hz;have hb:b<w.heap.size:=ZL (hcl 0 e he 0 c hc0);exact .sl false es b o a5 cap u hne hp (hR b hb h1) o9 hz hcl λ i e he j c hj=>ih i e he j c hj (V6 (lR hc i e he) j c hj)
theorem DA.clean {w:World} {R R':Bool->Nat->Prop} (hR : ∀ b,b<w.heap.size->R false b->R' false b) {c:AV} {v:Value} (h:DA w R c v) (hc:CT c):DA w R' c v:=by
 rcases h with h|⟨cs,vs,rfl,rfl,hl,hh⟩
 ·exact Or.inl (h.clean hR hc)
 ·unfold CT at hc
  exact Or.inr ⟨cs,vs,rfl,rfl,hl,λ j x u hx hu=>(hh j x u hx hu).clean hR (V6 hc j x hx)⟩
theorem DV.clean {w:World} {R R':Bool->Nat->Prop} (hR : ∀ b,b<w.heap.size->R false b->R' false b) {c:AV} {v:Value} (h:DV w R c v) (hc:CT c):DV w R' c v:=by
 rcases h with h|⟨cs,vs,rfl,rfl,hl,hh⟩
 ·exact Or.inl (h.clean hR hc)
 ·unfold CT at hc
  exact Or.inr ⟨cs,vs,rfl,rfl,hl,λ j x u hx hu=>(hh j x u hx hu).clean hR (V6 hc j x hx)⟩
theorem vQ {B:Nat} {S:Nat->Prop} {m:M} {c:AV} {v:Value} (h:CV B S m c v) (hc:CT c):DV m.w (safe B S m) c v:=by
 have one : ∀ {c:AV} {v:Value},CC B S m c v->CT c->Rd m.w (safe B S m) c v:=λ h hc=>by
  cases h with
  | rd h=>exact h
  | _=>unfold CT at hc;exact hc.elim
 have ca : ∀ {c:AV} {v:Value},CA B S m c v->CT c->DA m.w (safe B S m) c v:=λ h hc=>by
  cases h with
  | one h=>exact Or.inl (one h hc)
  | fn=>unfold CT at hc;exact hc.elim
  | agg cs vs h =>
   unfold CT at hc;exact Or.inr ⟨cs,vs,rfl,rfl,h.1,λ j x u hx hu=>one (h.2 j x u hx hu) (V6 hc j x hx)⟩
 cases h with
 | any v=>unfold CT at hc;exact hc.elim
 | ca h=>exact Or.inl (ca h hc)
 | tup as vs hl h =>
  unfold CT at hc;exact Or.inr ⟨as,vs,rfl,rfl,hl,λ j x u hx hu=>ca (h j x u hx hu) (V6 hc j x hx)⟩
theorem jP {f:Nat} {xs:Array Operand} {ts:Array TypeId} (e6:o.op = .call ⟨.value (.func f),xs,ts⟩) {w:World} (h:(callFunc f (xs.map a.eval)).run P w = .ok (.enter f (xs.map a.eval)) w):(execOp a.eval o).run P w = .ok (.enter f (xs.map a.eval)) w:=by
 simp [execOp,e6,resolve,Deferred.ofValue,Act.eval,invoke];exact h
theorem wP {C:Cl} (hC:K3 P num C) (hm:DJ B S w0 m) (hs:EM B S m ρ a.eval) {f:Nat} {xs:Array Operand} {l6:List B8} (he:G2 xs.toList l6=true) (hex : ∀ w:World,(callFunc (num f) (xs.map a.eval)).run P w = .ok (.enter (num f) (xs.map a.eval)) w->(execOp a.eval o).run P w = .ok (.enter (num f) (xs.map a.eval)) w) {vs:List AV} {r:AV} (hv:(l6.map ρ).mapM (F6 m.own true)=some vs) (hr:C.pure f vs=some r):EP B S w0 P o a m (.val r):=by
 obtain ⟨hl,hx⟩:=ZU hs he;obtain ⟨hl2,dw⟩:=VB _ hv;have da:(xs.map a.eval)=(xs.toList.map a.eval).toArray:=by cases xs;simp
 have dv : ∀ (j:Nat) (c:AV) (v:Value),vs[j]? = some c->(xs.toList.map a.eval)[j]? = some v->CA m.w.heap.size (safe B S m false) ⟨λ_ _=>none,BT.emp,m.w⟩ c v:=by
  intro j c v hc jf;rw[List.getElem?_map]at jf;cases fu:xs.toList[j]? with
  | none=>simp [fu]at jf
  | some x =>
   simp [fu]at jf;subst jf;have hjl:j<l6.length:=by rw[<-hl];exact (zS fu).1
   obtain ⟨y,hy,bq⟩:=dw j (ρ l6[j]) (by rw[List.getElem?_map,zE hjl];rfl);rw[hc]at hy;obtain rfl:c=y:=by simpa using hy
   have n8:=hx j x l6[j] fu (zE hjl);have hda:=jZ hm true (safe m.w.heap.size (safe B S m false) ⟨λ_ _=>none,BT.emp,m.w⟩) (λ l b hb np=>by
    cases l with
    | false=>exact .inl ⟨np,hb⟩
    | true=>exact .inr (.inr ⟨rfl,hb⟩)) (λ s t g dj hg=>by
    obtain ⟨_,arr,e,hh⟩:=hm.ge dj hg;exact .inr (.inr ⟨rfl,(Array.getElem?_eq_some_iff.1 hh).1⟩)) bq n8
   exact DA.ca (m:=⟨λ_ _=>none,BT.emp,m.w⟩) hda
 have aq:=hC.pure f vs r hr (safe B S m false) m.w (xs.toList.map a.eval) (by rw[<-hl2];simp [hl]) dv;intro K Q hK;unfold Oper.wp;rw[hex _ (hC.kb f vs r hr _ _),da];refine Calls.mono aq λ e w' ⟨u,di,cq,n8,hcl⟩ => ?_
 subst di;obtain ⟨fe,bg⟩:=grow hm cq;refine hK u ⟨m.ν,m.own,w'⟩ rfl fe bg ?_;refine DV.cv (m:=⟨m.ν,m.own,w'⟩) ((vQ n8 hcl).clean (λ b hb np => ?_) hcl);rcases np with ⟨h1,h2⟩|⟨h1,_⟩|⟨h1,_⟩
 ·exact bg.pj false b h2 h1
 ·refine .inr (.inl ⟨Nat.le_trans hm.size h1,λ s t dj hg => ?_⟩)
  obtain ⟨b',e7⟩:=Option.isSome_iff_exists.1 dj;obtain ⟨_,arr,e,hh⟩:=hm.ge ⟨b',e7⟩ hg;have:=(Array.getElem?_eq_some_iff.1 hh).1;omega
 ·cases h1
theorem Agp {C:Cl} (hC:K3 P num C) (hm:DJ B S w0 m) (hs:EM B S m ρ a.eval) {f:Nat} {l6:List B8} (h:CX P num o.op (.call f l6)=true) {vs:List AV} {r:AV} (hv:(l6.map ρ).mapM (F6 m.own true)=some vs) (hr:C.pure f vs=some r):EP B S w0 P o a m (.val r):=by
 obtain ⟨xs,ts,e6,he⟩:=oI h;exact wP hC hm hs he (λ w h=>jP e6 h) hv hr
theorem wM {C:Cl} (hC:K3 P num C) (hm:DJ B S w0 m) (hs:EM B S m ρ a.eval) {f:Nat} {l6:List B8} (h:CX P num o.op (.c5 f l6)=true) {r:AV} {g7:BT} (hr:C.bu f (l6.map ρ) m.own=some (r,g7)):EP B S w0 P o a m (.w8 r g7):=by
 obtain ⟨xs,ts,e6,he⟩:=Ajt h;obtain ⟨hl,hx⟩:=ZU hs he;have da:(xs.map a.eval)=(xs.toList.map a.eval).toArray:=by cases xs;simp
 have aq:=hC.bu f (l6.map ρ) m.own r g7 hr B S w0 m (xs.toList.map a.eval) rfl hm (by simp [hl]) (λ j c v hc hv=>by
  rw[List.getElem?_map]at hc hv;cases fu:xs.toList[j]? with
  | none=>simp [fu]at hv
  | some x =>
   cases pd:l6[j]? with
   | none=>simp [pd]at hc
   | some y =>
    simp [fu]at hv;simp [pd]at hc;subst hv hc;exact hx j x y fu pd)
 intro K Q hK;unfold Oper.wp;rw[jP e6 (hC.ic f _ _ _ hr _ _),da];refine Calls.mono aq λ e w' ⟨u,m',di,hw,d8,fe,bg,n8⟩ => ?_
 subst di hw;exact hK u m' d8 fe bg n8
theorem Xj (hm:DJ B S w0 m) {w':World} (hb:Below m.w.heap.size m.w w') (s:Nat) (b:GJ) (gg:Option Nat) (hz : ∀ x∈b.es,x.length=b.a5)
  (hg:match gg with|none=>b.es=[]|some g=>m.w.heap.size<=g /\ ∃ arr e,w'.heap[g]? = some (.cells arr e (0,0)) /\ ∀ i cs,b.es[i]? = some cs -> ∀ j c,cs[j]? = some c -> ∃ u,arr[i*b.a5+j]? = some u/\CC B S ⟨c9 m s gg,m.own.put s ((m.own s).new b),w'⟩ c u) :
  DJ B S w0 ⟨c9 m s gg,m.own.put s ((m.own s).new b),w'⟩/\FY B S m ⟨c9 m s gg,m.own.put s ((m.own s).new b),w'⟩:=by
 have hν : ∀ s' t',live m s' t'->c9 m s gg s' t'=m.ν s' t':=λ s' t' hl=>by
  unfold c9;rw[if_neg];rintro ⟨rfl,rfl⟩;exact iX hm _ hl
 have fp : ∀ g,gg=some g->m.w.heap.size<=g:=λ g e=>by subst e;exact hg.1
 have he:FY B S m ⟨c9 m s gg,m.own.put s ((m.own s).new b),w'⟩:=by
  refine XY hm hb.size (λ k hk _=>hb.block k hk) (λ s' => ?_) (λ s' t' b' ht e7 => ?_) (λ s' t' g hl x7 e9 => ?_)
  ·rw[O1];split
   ·rename_i h;subst h;omega
   ·exact Nat.le_refl _
  ·rw[JB]at e7
   rw[if_neg (by rintro ⟨rfl,rfl⟩;omega)]at e7;refine ⟨b',e7,rfl,hν s' t' ⟨b',e7⟩,λ g ar e' x7 ha=>⟨ar,?_,rfl⟩⟩;exact (hb.block g (Array.getElem?_eq_some_iff.1 ha).1).trans ha
  ·obtain ⟨b',e7⟩:=hl
   rw[JB]at e7;by_cases h:s'=s/\t'=m.own.c8 s
   ·simp only[c9,if_pos h]at x7
    have:=fp g x7
    omega
   ·rw[if_neg h]at e7
    exact ⟨s',t',⟨b',e7⟩,by rw[<-hν s' t' ⟨b',e7⟩];exact x7⟩
 refine ⟨⟨hm.below.trans (hb.mono hm.size),Nat.le_trans hm.size hb.size,λ s' t' ht => ?_,λ s' t' b' e7 => ?_,λ s1 t1 s2 t2 b1 b2 g h1 h2 g1 g2 => ?_⟩,he⟩
 ·rw[O1]at ht
  rw[JB,if_neg]
  ·refine hm.fresh s' t' ?_
   split at ht
   ·rename_i h;subst h;omega
   ·exact ht
  ·rintro ⟨rfl,rfl⟩
   simp at ht;omega
 ·rw[JB]at e7
  by_cases h:s'=s/\t'=m.own.c8 s
  ·rw[if_pos h]at e7
   obtain rfl:b=b':=by simpa using e7
   refine ⟨hz,?_⟩;show match c9 m s gg s' t' with|none=>_|some g=>_
   rw[show c9 m s gg s' t'=gg by simp [c9,h]];cases gg with
   | none=>exact hg
   | some g=>exact ⟨Nat.le_trans hm.size hg.1,hg.2⟩
  ·rw[if_neg h]at e7
   obtain ⟨h1,h2⟩:=hm.blk s' t' b' e7;refine ⟨h1,?_⟩;show match c9 m s gg s' t' with|none=>_|some g=>_
   rw[hν s' t' ⟨b',e7⟩];cases hv:m.ν s' t' with
   | none=>rw[hv]at h2;exact h2
   | some g =>
    rw[hv]at h2;obtain ⟨h3,ar,e',h4,h5⟩:=h2;refine ⟨h3,ar,e',(hb.block g (Array.getElem?_eq_some_iff.1 h4).1).trans h4,λ i cs hi j c hj => ?_⟩;obtain ⟨u,hu,hcc⟩:=h5 i cs hi j c hj;exact ⟨u,hu,he.cc hcc⟩
 ·rw[JB]at h1 h2
  have lt : ∀ s' t' b',m.own.get s' t'=some b'->c9 m s gg s' t'=some g->g<m.w.heap.size:=λ s' t' b' e7 x7=>by
   rw[hν s' t' ⟨b',e7⟩]at x7;obtain ⟨_,ar,e',h4⟩:=hm.ge ⟨b',e7⟩ x7;exact (Array.getElem?_eq_some_iff.1 h4).1
  have at_ : ∀ s' t',s'=s/\t'=m.own.c8 s->c9 m s gg s' t'=some g->m.w.heap.size<=g:=λ s' t' h x7=>by
   simp only[c9,if_pos h]at x7;exact fp g x7
  by_cases p1:s1=s/\t1=m.own.c8 s<;>by_cases p2:s2=s/\t2=m.own.c8 s
  ·exact ⟨p1.1.trans p2.1.symm,p1.2.trans p2.2.symm⟩
  ·rw[if_neg p2]at h2
   have:=lt s2 t2 b2 h2 g2
   have:=at_ s1 t1 p1 g1
   omega
  ·rw[if_neg p1]at h1
   have:=lt s1 t1 b1 h1 g1
   have:=at_ s2 t2 p2 g2
   omega
  ·rw[if_neg p1]at h1
   rw[if_neg p2]at h2;exact hm.inj s1 t1 s2 t2 b1 b2 g h1 h2 (by rw[<-hν s1 t1 ⟨b1,h1⟩];exact g1) (by rw[<-hν s2 t2 ⟨b2,h2⟩];exact g2)
theorem Ags {C:Cl} (hC:K3 P num C) (hm:DJ B S w0 m) (hs:EM B S m ρ a.eval) {s f:Nat} {l6:List B8} (h:CX P num o.op (.m5 s f l6)=true) {vs:List AV} (hv:(l6.map ρ).mapM (UG m.own true)=some vs) {z:Nat} {es:List (List AV)} (hr:TU (C.bu f vs BT.emp)=some (z,es)) :
  EP B S w0 P o a m (.new s ⟨z,es⟩ (λ t => .row s t z 0 es.length)):=by
 obtain ⟨xs,ts,e6,he⟩:=oI (Ajv h);obtain ⟨s0,t0,o',b0,hin,g6,rfl,hcl⟩:=Xi hr;obtain ⟨hl,hx⟩:=ZU hs he;obtain ⟨hl2,dw⟩:=VB _ hv;have da:(xs.map a.eval)=(xs.toList.map a.eval).toArray:=by cases xs;simp
 have dv : ∀ (j:Nat) (c:AV) (v:Value),vs[j]? = some c->(xs.toList.map a.eval)[j]? = some v->CV m.w.heap.size (safe B S m false) ⟨λ_ _=>none,BT.emp,m.w⟩ c v:=by
  intro j c v hc jf;rw[List.getElem?_map]at jf;cases fu:xs.toList[j]? with
  | none=>simp [fu]at jf
  | some x =>
   simp [fu]at jf;subst jf;have hjl:j<l6.length:=by rw[<-hl];exact (zS fu).1
   obtain ⟨y,hy,bq⟩:=dw j (ρ l6[j]) (by rw[List.getElem?_map,zE hjl];rfl);rw[hc]at hy;obtain rfl:c=y:=by simpa using hy
   have n8:=hx j x l6[j] fu (zE hjl);have hN:(ρ l6[j] = .nil/\c = .nil)\/F6 m.own true (ρ l6[j])=some c:=by
    cases e:ρ l6[j] with
    | nil=>rw[e]at bq;exact .inl ⟨rfl,(Option.some.inj bq).symm⟩
    | _=>rw[e]at bq;exact .inr bq
   rcases hN with ⟨e1,rfl⟩|bq
   ·rw[e1]at n8
    rw[U0 n8];exact .ca (.one .nil)
   have hda:=jZ hm true (safe m.w.heap.size (safe B S m false) ⟨λ_ _=>none,BT.emp,m.w⟩) (λ l b hb np=>by
    cases l with
    | false=>exact .inl ⟨np,hb⟩
    | true=>exact .inr (.inr ⟨rfl,hb⟩)) (λ s t g dj hg=>by
    obtain ⟨_,arr,e,hh⟩:=hm.ge dj hg;exact .inr (.inr ⟨rfl,(Array.getElem?_eq_some_iff.1 hh).1⟩)) bq n8
   exact .ca (DA.ca (m:=⟨λ_ _=>none,BT.emp,m.w⟩) hda)
 have hm0:DJ m.w.heap.size (safe B S m false) m.w ⟨λ_ _=>none,BT.emp,m.w⟩:=⟨Below.refl _ _,Nat.le_refl _,λ_ _ _=>rfl,(λ s t b h=>by cases h),(λ_ _ _ _ _ _ _ h=>by cases h)⟩;have aq:=hC.bu f vs BT.emp _ o' hin m.w.heap.size (safe B S m false) m.w ⟨λ_ _=>none,BT.emp,m.w⟩ (xs.toList.map a.eval) rfl hm0 (by rw[<-hl2];simp [hl]) dv;intro K Q hK;unfold Oper.wp;rw[jP e6 (hC.ic f _ _ _ hin _ _),da];refine Calls.mono aq λ e w' ⟨u,m',di,hw,d8,fe,Py,n8⟩ => ?_
 subst di hw;have cq:Below m.w.heap.size m.w m'.w:=fe.below;rw[<-d8]at g6;obtain ⟨hz,fm⟩:=fe.blk s0 t0 b0 g6;obtain ⟨ad,cap,rfl,ht,w4,fr,ha,hb⟩:=XP n8;obtain ⟨z8,hor⟩:=hb b0 g6;subst z8;have hold : ∀ s t g,live m s t->m.ν s t=some g->g<m.w.heap.size:=λ s t g dj hg=>by
  obtain ⟨_,arr,e,hh⟩:=hm.ge dj hg;exact (Array.getElem?_eq_some_iff.1 hh).1
 have rb : ∀ s' t' g,live ⟨c9 m s (m'.ν s0 t0),m.own.put s ((m.own s).new ⟨b0.a5,b0.es⟩),m'.w⟩ s' t'->c9 m s (m'.ν s0 t0) s' t'=some g->g<m.w.heap.size\/m'.ν s0 t0=some g:=λ s' t' g dj hg=>by
  obtain ⟨b',e7⟩:=dj;rw[JB]at e7;by_cases hst:s'=s/\t'=m.own.c8 s
  ·simp only[c9,if_pos hst]at hg
   exact Or.inr hg
  ·rw[if_neg hst]at e7
   simp only[c9,if_neg hst]at hg;exact Or.inl (hold s' t' g ⟨b',e7⟩ hg)
 have hR : ∀ b,b<m'.w.heap.size->safe m.w.heap.size (safe B S m false) m' false b->safe B S ⟨c9 m s (m'.ν s0 t0),m.own.put s ((m.own s).new ⟨b0.a5,b0.es⟩),m'.w⟩ false b:=λ b hbs np=>by
  rcases np with ⟨h1,h2⟩|⟨h1,h2⟩|⟨h1,_⟩
  ·rcases h1 with h1|⟨h1,h3⟩|⟨h1,_⟩
   ·exact .inl h1
   ·refine .inr (.inl ⟨h1,λ s' t' dj hg => ?_⟩)
    obtain ⟨b',e7⟩:=Option.isSome_iff_exists.1 dj;have m7:=e7;rw[JB]at m7;by_cases hst:s'=s/\t'=m.own.c8 s
    ·simp only[c9,if_pos hst]at hg
     rw[hg]at fm;have:=fm.1;omega
    ·rw[if_neg hst]at m7
     simp only[c9,if_neg hst]at hg;exact h3 s' t' (by rw[m7];rfl) hg
   ·cases h1
  ·refine .inr (.inl ⟨Nat.le_trans hm.size h1,λ s' t' dj hg => ?_⟩)
   rcases rb s' t' b (Option.isSome_iff_exists.1 dj) hg with h3|h3
   ·omega
   ·exact h2 s0 t0 (by rw[g6];rfl) h3
  ·cases h1
 obtain ⟨jl,bg⟩:=Xj hm cq s ⟨b0.a5,b0.es⟩ (m'.ν s0 t0) hz (by
  cases hν:m'.ν s0 t0 with
  | none=>rw[hν]at fm;exact fm
  | some g =>
   rw[hν]at fm hR;obtain ⟨h1,arr,e,h2,h3⟩:=fm;refine ⟨h1,arr,e,h2,λ i cs hi j c hj => ?_⟩;obtain ⟨u,hu,hcc⟩:=h3 i cs hi j c hj;refine ⟨u,hu,.rd ?_⟩;have ki:=V6 (lR hcl i cs hi) j c hj;have ik:Rd m'.w (safe m.w.heap.size (safe B S m false) m') c u:=by
    cases hcc with
    | rd h=>exact h
    | _=>unfold CT at ki;exact ki.elim
   exact ik.clean hR ki)
 refine hK _ ⟨c9 m s (m'.ν s0 t0),m.own.put s ((m.own s).new ⟨b0.a5,b0.es⟩),m'.w⟩ rfl jl bg (.ca (.one (.row s (m.own.c8 s) b0.a5 0 b0.es.length ad cap (by show m.own.c8 s<BT.c8 (m.own.put s _) s;rw[O1,if_pos rfl];omega) w4 fr ha λ b1 ji => ?_)));have ui:(m.own.put s ((m.own s).new ⟨b0.a5,b0.es⟩)).get s (m.own.c8 s)=some b1:=ji;rw[JB,if_pos ⟨rfl,rfl⟩]at ui;obtain rfl:=Option.some.inj ui;refine ⟨rfl,?_⟩;rcases hor with h0|⟨g,arr,e,hg,dh,hh,hle⟩
 ·exact .inl h0
 ·exact .inr ⟨g,arr,e,by simp [c9,hg],dh,hh,hle⟩
theorem vT {p:Bool} {f g:Nat} {cs:List AV} {v:Value} (h:CV B S m (.fn p f g cs) v) : ∃ vs:List Value,v = .func (.func g) #[] vs.toArray/\CL B S m cs vs:=by
 cases h with
 | ca h=>cases h with
  | one h=>cases h with
   | rd h=>cases h
  | fn p f g cs vs h=>exact ⟨vs,rfl,h⟩
theorem Nm {f:Nat} {x:Operand} {xs:Array Operand} {ts:Array TypeId} {vs:Array Value} (e6:o.op = .call ⟨.value x,xs,ts⟩) (hx:a.eval x = .func (.func f) #[] vs) {w:World} (h:(callFunc f (xs.map a.eval++vs)).run P w = .ok (.enter f (xs.map a.eval++vs)) w):(execOp a.eval o).run P w = .ok (.enter f (xs.map a.eval++vs)) w:=by
 simp [execOp,e6,resolve,Deferred.ofValue,hx,invoke];exact h
theorem Agt {C:Cl} (hC:K3 P num C) (hm:DJ B S w0 m) (hs:EM B S m ρ a.eval) {x':B8} {l6:List B8} (h:CX P num o.op (.l9 x' l6)=true) {f:Nat} {cs:List AV} (hf:ρ x' = .fn false f (num f) cs) {r:AV} {g7:BT} (hr:C.bu f (l6.map ρ++cs) m.own=some (r,g7)):EP B S w0 P o a m (.w8 r g7):=by
 obtain ⟨x,xs,ts,e6,hx0,he⟩:=Kg h;obtain ⟨hl,hx⟩:=ZU hs he;obtain ⟨vs,hv,hcl⟩:=vT (hf ▸ hs x x' hx0);have da:(xs.map a.eval++vs.toArray)=(xs.toList.map a.eval++vs).toArray:=by cases xs;simp
 have aq:=hC.bu f (l6.map ρ++cs) m.own r g7 hr B S w0 m (xs.toList.map a.eval++vs) rfl hm (by simp [hl,hcl.1]) (λ j c v hc hv=>by
  by_cases hj:j<l6.length
  ·rw[List.getElem?_append_left (by simpa using hj),List.getElem?_map]at hc
   rw[List.getElem?_append_left (by simpa [hl] using hj),List.getElem?_map]at hv;have Qf:j<xs.toList.length:=by rw[hl];exact hj
   rw[zE hj]at hc;rw[zE Qf]at hv;simp only[Option.map_some,Option.some.injEq]at hc hv;subst hc hv;exact hx j _ _ (zE Qf) (zE hj)
  ·rw[List.getElem?_append_right (by simpa using hj),List.length_map]at hc
   rw[List.getElem?_append_right (by simpa [hl] using hj),List.length_map,hl]at hv;exact .ca (.one (hcl.2 _ c v hc hv)))
 intro K Q hK;unfold Oper.wp;rw[Nm e6 hv (hC.ic f _ _ _ hr _ _),da];refine Calls.mono aq λ e w' ⟨u,m',di,hw,d8,fe,bg,n8⟩ => ?_
 subst di hw;exact hK u m' d8 fe bg n8
theorem Agq {C:Cl} (hC:K3 P num C) (hm:DJ B S w0 m) (hs:EM B S m ρ a.eval) {x':B8} {l6:List B8} (h:CX P num o.op (.l9 x' l6)=true) {f:Nat} (hf:ρ x' = .fn true f (num f) []) {vs:List AV} {r:AV} (hv:(l6.map ρ).mapM (F6 m.own true)=some vs) (hr:C.pure f vs=some r):EP B S w0 P o a m (.val r):=by
 obtain ⟨x,xs,ts,e6,hx0,he⟩:=Kg h;obtain ⟨us,hu,hcl⟩:=vT (hf ▸ hs x x' hx0);have hu0:us=[]:=List.eq_nil_of_length_eq_zero (by rw[<-hcl.1];rfl);subst hu0;refine wP hC hm hs he (λ w h => ?_) hv hr;have:=Nm (P:=P) (w:=w) e6 hu (by simpa using h);simpa using this
theorem Rd.to1 {w:World} {R R':Bool->Nat->Prop} (hR : ∀ l b,b<w.heap.size->R l b -> ∀ l',R' l' b) {c:AV} {v:Value} (h:Rd w R c v) (hq:J7 c=true):Rd w R' (aQ c) v:=by
 cases h with
 | int k n=>exact .int k n
 | bool b=>exact .bool b
 | str s=>simp [J7]at hq
 | emp=>simp [J7]at hq
 | dm l a cap=>exact .dm false a cap
 | sl l es b o a5 cap u hne hp h1 o9 hz hcl hr =>
  obtain ⟨e,c,he,hc0⟩:=iD hne hp hz;have hb:b<w.heap.size:=ZL (hcl 0 e he 0 c hc0);exact .sl false es b o a5 cap u hne hp (hR l b hb h1 false) o9 hz hcl λ i e he j c hj=>(hr i e he j c hj).mono (λ l b hb h=>hR l b hb h l) (λ_ _ _ _=>rfl)
theorem Rd.ny {w:World} {R R':Bool->Nat->Prop} (hR : ∀ b,b<w.heap.size->R false b->R' true b) {c:AV} {v:Value} (h:Rd w R c v) (hc:CT c) (hf:aW c):Rd w R' (dA c) v:=by
 cases h with
 | int k n=>exact .int k n
 | bool b=>exact .bool b
 | str s=>exact hf.elim
 | emp=>exact hf.elim
 | dm l a cap=>exact .dm true a cap
 | sl l es b o a5 cap u hne hp h1 o9 hz hcl hr =>
  unfold CT at hc;obtain ⟨rfl,hc⟩:=hc;obtain ⟨e,c,he,hc0⟩:=iD hne hp hz;have hb:b<w.heap.size:=ZL (hcl 0 e he 0 c hc0);refine .sl true es b o a5 cap u hne hp (hR b hb h1) o9 hz hcl λ i e he j c hj => ?_
  have Gl:=hf e (zM he) c (zM hj);have ri:=hr i e he j c hj;generalize u i j=vv at ri ⊢;cases ri<;>first|exact .int _ _|exact .bool _|(simp [Lb]at Gl)
theorem Agr {C:Cl} (hC:K3 P num C) (hm:DJ B S w0 m) (hs:EM B S m ρ a.eval) {f:Nat} {l6:List B8} (h:CX P num o.op (.g8 f l6)=true) (hq:(l6.map ρ).all dq=true) {r:AV} (hr:C.pure f ((l6.map ρ).map mq)=some r) (hfl:aX r):EP B S w0 P o a m (.val (jq r)):=by
 obtain ⟨xs,ts,e6,he⟩:=oI (Aju h);obtain ⟨hl,hx⟩:=ZU hs he;have da:(xs.map a.eval)=(xs.toList.map a.eval).toArray:=by cases xs;simp
 have hR : ∀ l b,b<m.w.heap.size->safe B S m l b -> ∀ l',safe m.w.heap.size (safe B S m true) ⟨λ_ _=>none,BT.emp,m.w⟩ l' b:=λ l b hb h l' => .inl ⟨qG h,hb⟩
 have hcell : ∀ (c:AV) (v:Value),CC B S m c v->J7 c=true->Rd m.w (safe m.w.heap.size (safe B S m true) ⟨λ_ _=>none,BT.emp,m.w⟩) (aQ c) v:=λ c v hc hd=>by
  cases hc with
  | rd hr=>exact hr.to1 hR hd
  | nil=>exact .dm false none 0
  | row=>simp [J7]at hd
  | ptr=>simp [J7]at hd
  | m8=>simp [J7]at hd
 have dv : ∀ (j:Nat) (c:AV) (v:Value),((l6.map ρ).map mq)[j]? = some c->(xs.toList.map a.eval)[j]? = some v->CA m.w.heap.size (safe B S m true) ⟨λ_ _=>none,BT.emp,m.w⟩ c v:=by
  intro j c v hc jf;rw[List.getElem?_map,List.getElem?_map]at hc;rw[List.getElem?_map]at jf;cases fu:xs.toList[j]? with
  | none=>simp [fu]at jf
  | some x =>
   cases pd:l6[j]? with
   | none=>simp [pd]at hc
   | some y =>
    simp [fu]at jf;simp [pd]at hc;subst jf hc;have n8:=hx j x y fu pd;have hd:dq (ρ y)=true:=List.all_eq_true.1 hq _ (List.mem_map_of_mem (zM pd));generalize ρ y=cy at n8 hd ⊢;generalize a.eval x=vx at n8 ⊢;cases n8 with
    | any=>simp [dq,J7]at hd
    | tup=>simp [dq,J7]at hd
    | ca hca =>
     cases hca with
     | one hc1 =>
      have hd1:J7 cy=true/\mq cy=aQ cy:=by
       cases hc1 with
       | rd hr=>cases hr<;>exact ⟨hd,rfl⟩
       | _=>exact ⟨hd,rfl⟩
      rw[hd1.2];exact .one (.rd (hcell _ _ hc1 hd1.1))
     | agg cs vs hcl =>
      refine .agg (cs.map aQ) vs ⟨by simpa using hcl.1,λ k c' v' hc' je => ?_⟩;rw[List.getElem?_map]at hc';cases mg:cs[k]? with
      | none=>simp [mg]at hc'
      | some c0 =>
       simp [mg]at hc';subst hc';exact .rd (hcell c0 v' (hcl.2 k c0 v' mg je) (List.all_eq_true.1 hd _ (zM mg)))
     | fn=>simp [dq,J7]at hd
 have aq:=hC.pure f _ r hr (safe B S m true) m.w (xs.toList.map a.eval) (by simp [hl]) dv;intro K Q hK;unfold Oper.wp;rw[jP e6 (hC.kb f _ r hr _ _),da];refine Calls.mono aq λ e w' ⟨u,di,cq,n8,hcl⟩ => ?_
 subst di;obtain ⟨fe,bg⟩:=grow hm cq;refine hK u ⟨m.ν,m.own,w'⟩ rfl fe bg ?_;have fj : ∀ b,b<w'.heap.size->safe m.w.heap.size (safe B S m true) ⟨λ_ _=>none,BT.emp,w'⟩ false b->safe B S ⟨m.ν,m.own,w'⟩ true b:=λ b hb np=>by
  rcases np with ⟨h1,h2⟩|⟨h1,_⟩|⟨h1,_⟩
  ·exact bg.pj true b h2 h1
  ·refine .inr (.inl ⟨Nat.le_trans hm.size h1,λ s t dj hg => ?_⟩)
   obtain ⟨b',e7⟩:=Option.isSome_iff_exists.1 dj;obtain ⟨_,arr,e,hh⟩:=hm.ge ⟨b',e7⟩ hg;have:=(Array.getElem?_eq_some_iff.1 hh).1;omega
  ·cases h1
 rcases vQ n8 hcl with hda|⟨cs,vs,rfl,_⟩
 ·rcases hda with ik|⟨cs,vs,rfl,rfl,hl2,hh⟩
  ·have e1:jq r=dA r/\aW r:=by cases ik<;>exact ⟨rfl,hfl⟩
   rw[show EB.valOf (.val (jq r)) m.own=jq r from rfl,e1.1];exact .ca (.one (.rd (ik.ny fj hcl e1.2)))
  ·unfold CT at hcl
   refine .ca (.agg (cs.map dA) vs ⟨by simpa using hl2,λ k c' v' hc' je => ?_⟩);rw[List.getElem?_map]at hc';cases mg:cs[k]? with
   | none=>simp [mg]at hc'
   | some c0 =>
    simp [mg]at hc';subst hc';exact .rd ((hh k c0 v' mg je).ny fj (V6 hcl k c0 mg) (hfl c0 (zM mg)))
 ·exact hfl.elim
end
end Go.Eng

namespace Go.Eng
open Go.RowKit
section
variable {B:Nat} {S:Nat->Prop} {w0:World} {m:M}
variable {P:Program} {num:Nat->Nat} {o:Oper} {a:Act} {ρ:B8->AV} {C:Cl} {b7:List Nat}
theorem Zc (hm:DJ B S w0 m) (hs:EM B S m ρ a.eval) {mx:Bool} {l6:List B8} (h:CX P num o.op (.mm mx l6)=true) {v r:AV} {l:List AV} (hx:l6.map ρ=v::l) (hv:OD mx v l=some r):EP B S w0 P o a m (.val r):=by
 by_cases hi : ∃ k n,v = .int k n
 ·exact Zb hm hs h hx hv hi
 ·cases l with
  | cons u q =>
   simp only[OD]at hv;exfalso;cases v<;>first|(exact hi ⟨_,_,rfl⟩)|(simp [VH]at hv)
  | nil =>
   simp only[OD,Option.some.injEq]at hv;subst hv;obtain ⟨xs,ts,e6,he⟩:=Kj h;cases l6 with
   | nil=>simp at hx
   | cons y yr =>
    simp only[List.map_cons,List.cons.injEq,List.map_eq_nil_iff]at hx;obtain ⟨rfl,rfl⟩:=hx;obtain ⟨xl⟩:=xs;cases xl with
    | nil=>simp [G2]at he
    | cons x xr =>
     simp only[G2,Bool.and_eq_true]at he;cases xr with
     | cons=>simp [G2]at he
     | nil =>
      refine GX hm (u:=a.eval x) ?_ (hs x y he.1);cases mx<;>simp [execOp,e6,resolve,invoke,builtin,Builtin.min_,Builtin.max_]
theorem Jo (o:BT) (l:List Nat) (s t:Nat) (b:GJ) (h:(o.g9 l).get s t=some b):o.get s t=some b:=by
 induction l with
 | nil=>exact h
 | cons x r ih =>
  unfold BT.get BT.g9 at h;by_cases hs:s=x
  ·simp [hs]at h
  ·simp only[if_neg hs]at h
   exact ih h
theorem AjY {o:BT} {l:List Nat} {s t i j n:Nat} {cs:List AV} (h:(o.g9 l).iq s t i j n=some cs):o.iq s t i j n=some cs:=by
 unfold BT.iq at *;cases hg:(o.g9 l).get s t with
 | none=>simp [hg]at h
 | some b =>
  rw[Jo o l s t b hg];simpa [hg] using h
theorem Ahb {o:BT} {l:List Nat} {v:AV} {es:List (List AV)} (h:G4 (o.g9 l) v=some es):G4 o v=some es:=by
 cases v with
 | w7 v=>cases v<;>exact h
 | row s t z off len =>
  simp only[G4]at h ⊢;cases hg:(o.g9 l).get s t with
  | none=>simp [hg]at h
  | some b =>
   rw[Jo o l s t b hg];simpa [hg] using h
 | _=>exact h
theorem Z6 {α β:Type} {f g:α->Option β} (Pz : ∀ x y,f x=some y->g x=some y) : ∀ {l:List α} {l':List β},l.mapM f=some l'->l.mapM g=some l'
 | [],l',h=>by simpa using h
 | x::r,l',h=>by
  simp only[List.mapM_cons,Option.bind_eq_bind,Option.pure_def]at h ⊢;cases hx:f x with
  | none=>simp [hx]at h
  | some y =>
   cases hr:r.mapM f with
   | none=>simp [hx,hr]at h
   | some r' =>
    simp [hx,hr]at h;simp [Pz x y hx,Z6 Pz hr,h]
theorem qZ (o:BT) (l:List Nat) (b:Bool) : ∀ (d:Nat) (c c':AV),snap (o.g9 l) b d c=some c'->snap o b d c=some c'
 | 0,c,c',h=>by cases c<;>simp_all [snap]
 | d+1,c,c',h=>by
  cases c<;>first|(simp_all [snap];done)|skip
  rename_i s t z off len;simp only[snap]at h ⊢;cases he:G4 (o.g9 l) (.row s t z off len) with
  | none=>simp [he]at h
  | some es =>
   simp only[he]at h;rw[Ahb he];simp only[Option.map_eq_some_iff]at h ⊢;obtain ⟨es',h1,h2⟩:=h;exact ⟨es',Z6 (λ x y hx=>Z6 (qZ o l b d) hx) h1,h2⟩
theorem Mo (o:BT) (l:List Nat) (b:Bool) (c c':AV) (h:F6 (o.g9 l) b c=some c'):F6 o b c=some c':=by
 cases c<;>first|exact qZ o l b 6 _ _ h|skip
 simp only[F6,Option.map_eq_some_iff]at h ⊢;obtain ⟨cs,h1,h2⟩:=h;exact ⟨cs,Z6 (qZ o l b 6) h1,h2⟩
theorem Alg (o:BT) (l:List Nat) (b:Bool) (c c':AV) (h:UG (o.g9 l) b c=some c'):UG o b c=some c':=by
 rcases Classical.em (c = .nil) with rfl|hc
 ·exact h
 ·have e : ∀ o:BT,UG o b c=F6 o b c:=λ o=>by cases c<;>first|rfl|exact (hc rfl).elim
  rw[e]at h ⊢;exact Mo o l b _ _ h
theorem Aj7 {o:BT} {l:List Nat} {b:Bool} {xs vs:List AV} (h:xs.mapM (UG (o.g9 l) b)=some vs):xs.mapM (UG o b)=some vs:=Z6 (Alg o l b) h
theorem Aj5 {o:BT} {l:List Nat} {b:Bool} {xs vs:List AV} (h:xs.mapM (F6 (o.g9 l) b)=some vs):xs.mapM (F6 o b)=some vs:=Z6 (Mo o l b) h
theorem Als {own g7:BT} {s t i j:Nat} {vs:List AV} (h:own.er s t i j vs=some g7):own.put s (g7 s)=g7:=by
 unfold BT.er at h;cases hg:own.get s t with
 | none=>simp [hg]at h
 | some b =>
  simp only[hg]at h;cases he:b.es[i]? with
  | none=>simp [he]at h
  | some cs =>
   simp only[he]at h;split at h
   ·obtain rfl:=Option.some.inj h
    rw[BT.d6]
   ·cases h
theorem Aha (hC:K3 P num C) (hm:DJ B S w0 m) (hs:EM B S m ρ a.eval) {ru:GO} (hok:CX P num o.op ru=true) {E:EB} (h:c4 C b7 ρ m.own ru=some E):EP B S w0 P o a m E:=by
 cases ru with
 | a7 x=>simp only[c4,Option.some.injEq]at h;subst h;exact Zd hm hs hok
 | o3 s z=>simp only[c4,Option.some.injEq]at h;subst h;exact Zk hm hok
 | pick c x y =>
  simp only[c4]at h;split at h
  ·rename_i hc;simp only[Option.some.injEq]at h;subst h;exact wO hm hs hok hc
  ·rename_i hc;simp only[Option.some.injEq]at h;subst h;exact wO hm hs hok hc
  ·cases h
 | bin f x y =>
  simp only[c4]at h;split at h
  ·rename_i k n k' n' hx hy
   simp only[Option.map_eq_some_iff]at h;obtain ⟨v,hv,rfl⟩:=h;exact Agl hm hs hok hx hy hv
  ·cases h
 | jt ne n x y =>
  simp only[c4]at h;split at h
  ·rename_i cs ds hx hy
   split at h
   ·rename_i a b ha hb
    split at h
    ·rename_i hn
     simp only[Option.some.injEq]at h;subst h;exact Zv hm hs hok hx hy ha hb hn
    ·cases h
   ·cases h
  ·cases h
 | beq ne x y =>
  simp only[c4]at h;split at h
  ·rename_i b b' hx hy
   simp only[Option.some.injEq]at h;subst h;exact Agk hm hs hok hx hy
  ·cases h
 | un f x =>
  simp only[c4,Option.map_eq_some_iff]at h;obtain ⟨v,hv,rfl⟩:=h;exact Zj hm hs hok hv
 | conv k x =>
  simp only[c4]at h;split at h
  ·rename_i k' n hx
   simp only[Option.some.injEq]at h;subst h;exact Agv hm hs hok hx
  ·cases h
 | box s x =>
  simp only[c4]at h;split at h
  ·rename_i cs hcs
   simp only[Option.some.injEq]at h;subst h;exact Agm hm hs hok hcs
  ·cases h
 | alloc s z=>simp only[c4,Option.some.injEq]at h;subst h;exact Zw hm hok
 | build z ps =>
  simp only[c4,Option.map_eq_some_iff]at h;obtain ⟨cs,hcs,rfl⟩:=h;exact Ago hm hs hok hcs
 | b8 s a5 ps =>
  simp only[c4]at h;split at h
  ·rename_i es ct
   split at h
   ·rename_i hz
    simp only[Option.some.injEq]at h;subst h;exact Agn hm hs hok ct hz
   ·cases h
  ·cases h
 | a6 x off =>
  simp only[c4]at h;split at h
  ·rename_i s t i j hx
   simp only[Option.some.injEq]at h;subst h;exact Agz hm hs hok hx
  ·rename_i cs hx
   simp only[Option.some.injEq]at h;subst h;exact Agy hm hs hok hx
  ·cases h
 | gj x off n agg =>
  simp only[c4]at h;split at h
  ·rename_i cs hx
   split at h
   ·rename_i ds hp
    simp only[Option.map_eq_some_iff]at h;obtain ⟨v,hv,rfl⟩:=h;exact Yq hm hs hok hx hp hv
   ·cases h
  ·cases h
 | a4 arr a5 x i =>
  simp only[c4]at h;split at h
  ·rename_i k n hi
   split at h
   ·rename_i len s t i' j hx
    split at h
    ·rename_i hn
     simp only[Option.some.injEq]at h;subst h;exact Yr hm hs hok hi hx hn.1 hn.2
    ·cases h
   ·rename_i len cs hx
    split at h
    ·rename_i hn
     simp only[Option.some.injEq]at h;subst h;exact Ys hm hs hok hi hx hn.1 hn.2
    ·cases h
   ·rename_i s t z off len hx
    split at h
    ·rename_i hn
     simp only[Option.some.injEq]at h;subst h;exact Yt hm hs hok hi hx hn.1 hn.2.1 hn.2.2
    ·cases h
   ·rename_i l es hx
    split at h
    ·rename_i h0
     split at h
     ·rename_i cs hcs
      split at h
      ·rename_i hz
       simp only[Option.some.injEq]at h;subst h;exact Yu hm hs hok hi hx h0 hcs hz
      ·cases h
     ·cases h
    ·cases h
   ·cases h
  ·cases h
 | idx len a5 agg x i =>
  simp only[c4]at h;split at h
  ·rename_i k n cs hi hx
   split at h
   ·rename_i hn
    split at h
    ·rename_i ds hp
     simp only[Option.map_eq_some_iff]at h;obtain ⟨v,hv,rfl⟩:=h;exact Yv hm hs hok hi hx hn.1 hn.2 hp hv
    ·cases h
   ·cases h
  ·cases h
 | ld agg n x =>
  simp only[c4]at h;split at h
  ·rename_i s t i j hx
   split at h
   ·rename_i cs hcs
    simp only[Option.map_eq_some_iff]at h;obtain ⟨v,hv,rfl⟩:=h;exact Yx hm hs hok hx (AjY hcs) hv
   ·cases h
  ·rename_i cs hx
   split at h
   ·rename_i ds hp
    simp only[Option.map_eq_some_iff]at h;obtain ⟨v,hv,rfl⟩:=h;exact Yw hm hs hok hx hp hv
   ·cases h
  ·cases h
 | st n x v =>
  simp only[c4]at h;split at h
  ·rename_i s t i j vs hx de
   split at h
   ·rename_i hn
    simp only[Option.map_eq_some_iff]at h;obtain ⟨g7,ho,rfl⟩:=h;exact wS hm hs hok hx de hn ho
   ·cases h
  ·cases h
 | mk s a5 bytes zero l c =>
  simp only[c4]at h;split at h
  ·rename_i kl a' kc b' hl hc
   split at h
   ·rename_i hn
    simp only[Option.some.injEq]at h;subst h;exact Yz hm hs hok hl hc hn.1 hn.2.1 hn.2.2.1 hn.2.2.2.1 hn.2.2.2.2
   ·cases h
  ·cases h
 | ae a5 x lo hi =>
  simp only[c4]at h;have Ph : ∀ (d:Nat) (y:Option B8) (q:Nat),(match y with|none=>some d|some o=>match ρ o with | .int _ n=>if 0<=n/\n<=d then some n.toNat else none|_=>none)=some q -> ∃ n:Int,KO ρ d y=some n/\0<=n/\n<=d/\q=n.toNat:=λ d y q hq=>by
   cases y with
   | none=>simp only[Option.some.injEq]at hq;subst hq;exact ⟨d,rfl,by omega,by omega,by simp⟩
   | some y =>
    simp only at hq;cases hy:ρ y with
    | int k n =>
     simp only[hy]at hq;split at hq
     ·rename_i hn
      simp only[Option.some.injEq]at hq;subst hq;exact ⟨n,by simp [KO,hy],hn.1,hn.2,rfl⟩
     ·cases hq
    | _=>simp [hy]at hq
  have tz : ∀ (y:Option B8) (q:Nat),(match y with|none=>some 0|some o=>match ρ o with | .int _ n=>if 0<=n then some n.toNat else none|_=>none)=some q -> ∃ n:Int,KO ρ 0 y=some n/\0<=n/\q=n.toNat:=λ y q hq=>by
   cases y with
   | none=>simp only[Option.some.injEq]at hq;subst hq;exact ⟨0,rfl,by omega,by simp⟩
   | some y =>
    simp only at hq;cases hy:ρ y with
    | int k n =>
     simp only[hy]at hq;split at hq
     ·rename_i hn
      simp only[Option.some.injEq]at hq;subst hq;exact ⟨n,by simp [KO,hy],hn,rfl⟩
     ·cases hq
    | _=>simp [hy]at hq
  have ua : ∀ (y:Option B8) (q:Nat),(match y with|none=>some 0|some o=>match ρ o with | .int _ n=>if n=0 then some 0 else none|_=>none)=some q->KO ρ 0 y=some 0:=λ y q hq=>by
   cases y with
   | none=>rfl
   | some y =>
    simp only at hq;cases hy:ρ y with
    | int k n =>
     simp only[hy]at hq;split at hq
     ·rename_i hn
      subst hn;simp [KO,hy]
     ·cases hq
    | _=>simp [hy]at hq
  split at h
  ·rename_i l es hx
   split at h
   ·rename_i q1 q2 h1 h2
    split at h
    ·rename_i hq
     simp only[Option.some.injEq]at h;subst h;obtain ⟨n1,b1,c1,rfl⟩:=tz _ _ h1;obtain ⟨n2,b2,c2,c3,rfl⟩:=Ph _ _ _ h2;exact Zi hm hs hok hx b1 b2 c1 (by omega) c3 hq.2
    ·cases h
   ·cases h
  ·rename_i hx
   split at h
   ·rename_i q1 q2 h1 h2
    simp only[Option.some.injEq]at h;subst h;exact Zg hm hs hok hx (ua _ _ h1) (ua _ _ h2)
   ·cases h
  ·rename_i s t z off len hx
   split at h
   ·rename_i q1 q2 h1 h2
    split at h
    ·rename_i hq
     simp only[Option.some.injEq]at h;subst h;obtain ⟨n1,b1,c1,rfl⟩:=tz _ _ h1;obtain ⟨n2,b2,c2,c3,rfl⟩:=Ph _ _ _ h2;exact Zh hm hs hok hx b1 b2 c1 (by omega) c3 hq.2
    ·cases h
   ·cases h
  ·cases h
 | ext x i =>
  simp only[c4]at h;split at h
  ·rename_i vs hx
   simp only[Option.map_eq_some_iff]at h;obtain ⟨v,hv,rfl⟩:=h;exact Agx hm hs hok hx hv
  ·cases h
 | len x =>
  simp only[c4]at h;split at h
  ·rename_i n hn
   simp only[Option.some.injEq]at h;subst h;exact Yy hm hs hok hn
  ·cases h
 | mm mx xs =>
  simp only[c4]at h;split at h
  ·cases h
  ·rename_i v r hx
   simp only[Option.map_eq_some_iff]at h;obtain ⟨q,hq,rfl⟩:=h;exact Zc hm hs hok hx hq
 | app s a5 bytes x y =>
  simp only[c4]at h;split at h
  ·rename_i ys jn
   split at h
   ·rename_i hz
    split at h
    ·rename_i s' t z len hx
     split at h
     ·rename_i b hb
      split at h
      ·rename_i hn
       obtain ⟨n1,rfl,n3,n4,n5⟩:=hn;simp only[Option.some.injEq]at h;subst h;exact wL hm hs hok jn hz hx hb n1 n3 n4 n5
      ·cases h
     ·cases h
    ·rename_i hx
     split at h
     ·rename_i hn
      simp only[Option.some.injEq]at h;subst h;exact Zy hm hs hok jn hz hx hn.1 hn.2
     ·cases h
    ·cases h
   ·cases h
  ·cases h
 | ia a5 x y =>
  simp only[c4]at h;split at h
  ·rename_i s t z off len ys hx jn
   split at h
   ·rename_i b hb
    split at h
    ·rename_i hn
     obtain ⟨n1,rfl,n3,n4⟩:=hn;simp only[Option.some.injEq]at h;subst h;exact Agw hm hs hok jn n4 hx hb n1 n3
    ·cases h
   ·cases h
  ·cases h
 | call f xs =>
  simp only[c4]at h;split at h
  ·rename_i vs de
   simp only[Option.map_eq_some_iff]at h;obtain ⟨r,hr,rfl⟩:=h;exact Agp hC hm hs hok (Aj5 de) hr
  ·cases h
 | c5 f xs =>
  simp only[c4,Option.map_eq_some_iff]at h;obtain ⟨r,hr,rfl⟩:=h;exact wM hC hm hs hok hr
 | jo ne x =>
  simp only[c4]at h;split at h
  ·rename_i hx
   simp only[Option.some.injEq]at h;subst h;exact gX hm hs hok (b:=true) λ v hv=>by rw[hx]at hv;exact ⟨none,0,0,U0 hv,rfl⟩
  ·rename_i b hx
   simp only[Option.some.injEq]at h;subst h;exact gX hm hs hok (b:=b) λ v hv=>by
    rw[hx]at hv;obtain ⟨ad,c,h1,h2⟩:=vR hv;exact ⟨ad,0,c,h1,h2⟩
  ·rename_i hx
   simp only[Option.some.injEq]at h;subst h;exact gX hm hs hok (b:=false) λ v hv=>by rw[hx]at hv;exact Xa hv
  ·rename_i hx
   simp only[Option.some.injEq]at h;subst h;exact gX hm hs hok (b:=false) λ v hv=>by rw[hx]at hv;exact Wz hv
  ·cases h
 | bad =>
  have h:(none:Option EB)=some E:=h;cases h
 | jz x =>
  simp only[c4]at h;split at h
  ·rename_i hx
   simp only[Option.some.injEq]at h;subst h;exact Ze hm hs hok hx
  ·cases h
 | ak x =>
  simp only[c4]at h;split at h
  ·rename_i hx
   simp only[Option.some.injEq]at h;subst h;exact Agu hm hs hok hx
  ·cases h
 | w3 s f xs =>
  simp only[c4,Option.map_eq_some_iff]at h;obtain ⟨p,hp,rfl⟩:=h;exact wM hC hm hs (Ajw hok) (gA.1 hp m.own rfl)
 | gx s a5 bytes x y =>
  simp only[c4]at h;split at h
  ·rename_i q ys hx hy
   split at h
   ·rename_i hn
    simp only[Option.some.injEq]at h;subst h;exact Zx hm hs hok (ys:=ys) (by rw[hy];rfl) hn.1 hx hn.2.1 hn.2.2.1 hn.2.2.2
   ·cases h
  ·cases h
 | gi s a5 bytes x y =>
  simp only[c4]at h;split at h
  ·rename_i k n hx hy
   split at h
   ·rename_i hn
    simp only[Option.some.injEq]at h;subst h;exact Zz hm hs hok hx hy hn.1 hn.2.1 hn.2.2
   ·cases h
  ·cases h
 | bn tb x =>
  simp only[c4]at h;split at h
  ·rename_i k n hx
   split at h
   ·rename_i h0
    split at h
    ·rename_i v hv
     simp only[Option.some.injEq]at h;subst h;exact Zf hm hs hok hx h0 hv
    ·cases h
   ·cases h
  ·cases h
 | iu p f xs =>
  simp only[c4,Option.map_eq_some_iff]at h;obtain ⟨cs,hcs,rfl⟩:=h;rw[hC.num];exact Za hm hs hok hcs
 | g8 f xs =>
  simp only[c4]at h;split at h
  ·rename_i hq
   split at h
   ·rename_i r hr
    split at h
    ·rename_i hfl
     simp only[Option.some.injEq]at h;subst h;exact Agr hC hm hs hok hq hr hfl
    ·cases h
   ·cases h
  ·cases h
 | m5 s f xs =>
  simp only[c4]at h;split at h
  ·rename_i vs de
   simp only[Option.map_eq_some_iff]at h;obtain ⟨⟨z,es⟩,hr,rfl⟩:=h;exact Ags hC hm hs hok (Aj7 de) hr
  ·cases h
 | y9 s a5 bytes x y =>
  simp only[c4]at h;split at h
  ·rename_i l ys s' t z len hy hx
   split at h
   ·rename_i b hb
    split at h
    ·rename_i hn
     obtain ⟨rfl,hz,n1,rfl,n3,n4,n5⟩:=hn;simp only[Option.some.injEq]at h;subst h;have:=wL hm hs (Ajm hok) (ys:=ys) (by rw[hy];rfl) hz hx hb n1 n3 n4 n5;intro K Q hK;exact this K Q λ u m' h1 h2 h3 h4=>hK u m' h1 h2 h3 h4
    ·cases h
   ·cases h
  ·cases h
 | gf s n x v =>
  simp only[c4]at h;split at h
  ·rename_i s' t i j vs hx de
   split at h
   ·rename_i hn
    obtain ⟨rfl,hn⟩:=hn;simp only[Option.map_eq_some_iff]at h;obtain ⟨g7,ho,rfl⟩:=h;have:=wS hm hs (AjQ hok) hx de hn ho;intro K Q hK;refine this K Q λ u m' h1 h2 h3 h4=>hK u m' ?_ h2 h3 h4
    rw[h1];exact (Als ho).symm
   ·cases h
  ·cases h
 | l9 x xs =>
  simp only[c4]at h;split at h
  ·rename_i p f g cs hx
   split at h
   ·rename_i hg
    rw[hC.num]at hg;subst hg;split at h
    ·split at h
     ·rename_i vs de
      simp only[Option.map_eq_some_iff]at h;obtain ⟨r,hr,rfl⟩:=h;exact Agq hC hm hs hok hx de hr
     ·cases h
    ·simp only[Option.map_eq_some_iff]at h
     obtain ⟨r,hr,rfl⟩:=h;exact Agt hC hm hs hok hx hr
    ·cases h
   ·cases h
  ·cases h
end
end Go.Eng
