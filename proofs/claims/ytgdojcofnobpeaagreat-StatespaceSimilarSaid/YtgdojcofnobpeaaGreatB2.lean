/-
  Addresses, loads, stores, slices.
-/
import Derived.Test.YtgdojcofnobpeaaGreatB1
import Derived.Laws.Slices
set_option linter.unusedSimpArgs false
set_option linter.unusedVariables false
set_option linter.unnecessarySimpa false
namespace Go.Eng
open Go.RowKit
section
variable {B:Nat} {S:Nat->Prop} {w0:World} {m:M}
variable {P:Program} {num:Nat->Nat} {o:Oper} {a:Act} {ρ:B8->AV}
theorem fZ {x:AV} {v:Value} (h:CV B S m x v) (h1:x ≠ .any) (h2 : ∀ cs,x ≠ .agg cs) (h3 : ∀ cs,x ≠ .tup cs) (h4 : ∀ p f g cs,x ≠ .fn p f g cs:=by intros;simp):CC B S m x v:=by
 cases h with
 | any=>exact absurd rfl h1
 | tup as=>exact absurd rfl (h3 as)
 | ca h=>cases h with
  | one h=>exact h
  | agg cs=>exact absurd rfl (h2 cs)
  | fn p f g cs=>exact absurd rfl (h4 p f g cs)
theorem ZH {s t i j:Nat} {v:Value} (h:CV B S m (.ptr s t i j) v) : ∃ ad,v = .pointer (some ad)/\t<m.own.e5 s /\ ∀ b,m.own.get s t=some b -> ∃ g,m.ν s t=some g/\ad=⟨g,i*b.a6+j,none⟩:=by
 cases fZ h (by simp) (by simp) (by simp) with
 | rd h=>cases h
 | ptr s t i j ad ht h'=>exact ⟨ad,rfl,ht,h'⟩
theorem lJ {cs:List AV} {v:Value} (h:CV B S m (.o6 cs) v) : ∃ (b o:Nat) (u:Nat->Value) (l:Bool),v = .pointer (some ⟨b,o,none⟩)/\(cs≠[]->safe B S m l b)/\(∀ j c,cs[j]? = some c->m.w.cell? ⟨b,o+j,none⟩=some (u j))/\(∀ j c,cs[j]? = some c->Rd m.w (safe B S m) c (u j)):=by
 cases fZ h (by simp) (by simp) (by simp) with
 | rd h=>cases h
 | o6 _ b o u l h1 h2 h3=>exact ⟨b,o,u,l,rfl,h1,h2,h3⟩
theorem XD {s t z off len:Nat} {v:Value} (h:CV B S m (.row s t z off len) v) : ∃ (ad:Option Addr) (cap:Nat),v = .slice ad len cap/\t<m.own.e5 s/\0<z/\len<=cap/\(0<len->ad.isSome=true) /\
  ∀ b,m.own.get s t=some b->b.a6=z/\((len=0/\cap=0) \/ ∃ g arr e,m.ν s t=some g/\ad=some ⟨g,off*z,none⟩/\m.w.heap[g]? = some (.cells arr e (0,0))/\(off+cap)*z<=arr.size):=by
 cases fZ h (by simp) (by simp) (by simp) with
 | rd h=>cases h
 | row s t z off len ad cap ht y8 gf ha h'=>exact ⟨ad,cap,rfl,ht,y8,gf,ha,h'⟩
theorem gC {l:Bool} {es:List (List AV)} {v:Value} (h:CV B S m (.sl l es) v):Rd m.w (safe B S m) (.sl l es) v:=by
 cases fZ h (by simp) (by simp) (by simp) with
 | rd h=>exact h
theorem Uj (hm:DJ B S w0 m) (hs:EI B S m ρ a.eval) {x':B8} (h:CT P num o.op (.kj x')=true) {s t i j:Nat} (hx:ρ x' = .ptr s t i j):EO B S w0 P o a m (.val (.ptr s t i j)):=by
 obtain ⟨x,g6,h1⟩:=Aji h;have hc:=hx ▸ hs x x' h1;obtain ⟨ad,hv,_,_⟩:=ZH hc;refine GX hm (u := .pointer (some ad)) ?_ (hv ▸ hc);simp [execOp,g6,hv]
theorem Qf (hm:DJ B S w0 m) (hs:EI B S m ρ a.eval) {x':B8} {off:Nat} (h:CT P num o.op (.a7 x' off)=true) {s t i j:Nat} (hx:ρ x' = .ptr s t i j):EO B S w0 P o a m (.val (.ptr s t i (j+off))):=by
 obtain ⟨ty,x,f,fs,fd,inf,g6,h1,hu,hf,ho,hi,o7⟩:=Dq h;obtain ⟨ad,hv,ht,hb⟩:=ZH (hx ▸ hs x x' h1);refine GX hm (u := .pointer (some (ad.add off))) ?_ (.ca (.one (.ptr s t i (j+off) _ ht λ b g7 => ?_)))
 ·simp [execOp,g6,hv,Instr.fieldAt,run_underlying hu,hf,Instr.sureAddr,fieldPlace,sizeOf,typeInfo,hi,o7,ho]
 ·obtain ⟨g,hg,rfl⟩:=hb b g7
  exact ⟨g,hg,by rw[KJ];simp;omega⟩
theorem Qe (hm:DJ B S w0 m) (hs:EI B S m ρ a.eval) {x':B8} {off:Nat} (h:CT P num o.op (.a7 x' off)=true) {cs:List AV} (hx:ρ x' = .o6 cs):EO B S w0 P o a m (.val (.o6 (cs.drop off))):=by
 obtain ⟨ty,x,f,fs,fd,inf,g6,h1,hu,hf,ho,hi,o7⟩:=Dq h;obtain ⟨b,ob,u,l,hv,hR,hc,hr⟩:=lJ (hx ▸ hs x x' h1);refine GX hm (u := .pointer (some ⟨b,ob+off,none⟩)) ?_ (.ca (.one (.o6 _ b (ob+off) (λ j=>u (off+j)) l (λ hne=>hR (λ e=>hne (by simp [e]))) (λ j c hj => ?_) (λ j c hj => ?_))))
 ·simp [execOp,g6,hv,Instr.fieldAt,run_underlying hu,hf,Instr.sureAddr,fieldPlace,sizeOf,typeInfo,hi,o7,ho,KJ]
 ·rw[List.getElem?_drop]at hj
  rw[Nat.add_assoc];exact hc _ c hj
 ·rw[List.getElem?_drop]at hj
  exact hr _ c hj
theorem cS {agg:Bool} {cs:List AV} {v:AV} (h:ME agg cs=some v) {vs:List Value} (hc:CL B S m cs vs):CV B S m v (if agg then .agg vs.toArray else vs.getD 0 undef)/\(agg=false->vs.length=1):=by
 unfold ME at h;cases agg with
 | true =>
  obtain rfl:AV.agg cs=v:=by simpa using h
  exact ⟨.ca (.agg cs vs hc),by simp⟩
 | false =>
  simp only[Bool.false_eq_true,if_false]at h;split at h
  ·rename_i c
   obtain rfl:c=v:=by simpa using h
   obtain ⟨u,hu,hcc⟩:=ZF hc (j:=0) (c:=c) rfl;refine ⟨?_,λ_=>by rw[<-hc.1];rfl⟩;simp only[Bool.false_eq_true,if_false,List.getD,hu,Option.getD_some];exact .ca (.one hcc)
  ·cases h
theorem Fa (t:TypeId) (agg:Bool) (inf:TypeInfo) (bz : ∀ w,(isAgg t).run P w = .ok agg w) (hi:P.info? t=some inf) (vs:List Value) (off n:Nat) (hn:inf.size=n) (hle:off+n<=vs.length) (h1:agg=false->n=1) (w:World) :
  (Go.part t vs.toArray off).run P w = .ok (if agg then .agg ((vs.drop off).take n).toArray else ((vs.drop off).take n).getD 0 undef) w:=by
 unfold Go.part;rw[Sem.run_bind,bz w];cases agg with
 | true=>simp [sizeOf,typeInfo,hi,hn,List.extract_eq_take_drop]
 | false =>
  have l6:off<vs.length:=by have:=h1 rfl;omega
  simp [l6,h1 rfl]
theorem Tu (hm:DJ B S w0 m) (hs:EI B S m ρ a.eval) {x':B8} {off n:Nat} {agg:Bool} (h:CT P num o.op (.gx x' off n agg)=true) {cs ds:List AV} {v:AV} (hx:ρ x' = .agg cs) (hp:part cs off n=some ds) (hv:ME agg ds=some v) :
  EO B S w0 P o a m (.val v):=by
 obtain ⟨ty,x,f,fs,fd,inf,g6,h1,hu,hf,ho,hi,o7,bz,h0⟩:=Aja h;obtain ⟨vs,u5,hcl⟩:=fY (hx ▸ hs x x' h1);unfold Eng.part at hp;split at hp
 ·rename_i hle
  obtain rfl:(cs.drop off).take n=ds:=by simpa using hp
  obtain ⟨q5,cj⟩:=cS hv (tY hcl off n);have hl:=hcl.1;have h1':agg=false->n=1:=λ e=>by have:=cj e;simp at this;omega
  refine GX hm ?_ q5;simp only[execOp,g6,Sem.run_bind,Instr.field,run_underlying hu,Result.andThen_ok,hf,u5,asAgg,Sem.run_pure,ho];rw[Fa fd.type agg inf bz hi vs off n o7 (by omega) h1'];rfl
 ·cases hp
theorem Ua (hm:DJ B S w0 m) (hs:EI B S m ρ a.eval) {len a6:Nat} {agg:Bool} {x' i':B8} (h:CT P num o.op (.idx len a6 agg x' i')=true) {k:IntKind} {n:Int} {cs ds:List AV} {v:AV} (m5:ρ i' = .int k n) (hx:ρ x' = .agg cs) (h0:0<=n) (hn:n<len)
  (hp:part cs (n.toNat*a6) a6=some ds) (hv:ME agg ds=some v):EO B S w0 P o a m (.val v):=by
 obtain ⟨ty,x,i,e,inf,g6,h1,h2,hu,hi,o7,bz⟩:=Ajb h;obtain ⟨vs,u5,hcl⟩:=fY (hx ▸ hs x x' h1);have kf:=J4 (m5 ▸ hs i i' h2);unfold Eng.part at hp;split at hp
 ·rename_i hle
  obtain rfl:(cs.drop (n.toNat*a6)).take a6=ds:=by simpa using hp
  obtain ⟨q5,cj⟩:=cS hv (tY hcl (n.toNat*a6) a6);have hl:=hcl.1;have h1':agg=false->a6=1:=λ e=>by have:=cj e;simp at this;omega
  refine GX hm ?_ q5;simp only[execOp,g6,Sem.run_bind,Instr.index,kf,asIntOf,Sem.run_pure,run_underlying hu,Result.andThen_ok,u5];rw[if_pos ⟨h0,hn⟩];simp only[Sem.run_bind,sizeOf,typeInfo,run_program,hi,Sem.run_pure,Result.andThen_ok,o7];rw[Fa e agg inf bz hi vs (n.toNat*a6) a6 o7 (by omega) h1'];rfl
 ·cases hp
theorem Tv (hm:DJ B S w0 m) (hs:EI B S m ρ a.eval) {len a6:Nat} {x' i':B8} (h:CT P num o.op (.a4 (some len) a6 x' i')=true) {k:IntKind} {n:Int} {s t i0 j:Nat} (m5:ρ i' = .int k n) (hx:ρ x' = .ptr s t i0 j) (h0:0<=n) (hn:n<len) :
  EO B S w0 P o a m (.val (.ptr s t i0 (j+n.toNat*a6))):=by
 obtain ⟨ty,x,i,e,inf,g6,h1,h2,hi,o7,hor⟩:=iB h;rcases hor with ⟨fi,hl,hu,l6⟩|⟨hl,_⟩
 ·obtain rfl:len=fi:=by simpa using hl
  obtain ⟨ad,hv,ht,hb⟩:=ZH (hx ▸ hs x x' h1);have kf:=J4 (m5 ▸ hs i i' h2);refine GX hm (u := .pointer (some (ad.add (n.toNat*a6)))) ?_ (.ca (.one (.ptr s t i0 (j+n.toNat*a6) _ ht λ b g7 => ?_)))
  ·simp [execOp,g6,hv,kf,Instr.indexAt,asIntOf,run_underlying hu,Instr.sureAddr,sizeOf,typeInfo,hi,o7,h0,hn]
  ·obtain ⟨g,hg,rfl⟩:=hb b g7
   exact ⟨g,hg,by rw[KJ];simp;omega⟩
 ·cases hl
theorem Tw (hm:DJ B S w0 m) (hs:EI B S m ρ a.eval) {len a6:Nat} {x' i':B8} (h:CT P num o.op (.a4 (some len) a6 x' i')=true) {k:IntKind} {n:Int} {cs:List AV} (m5:ρ i' = .int k n) (hx:ρ x' = .o6 cs) (h0:0<=n) (hn:n<len) :
  EO B S w0 P o a m (.val (.o6 (cs.drop (n.toNat*a6)))):=by
 obtain ⟨ty,x,i,e,inf,g6,h1,h2,hi,o7,hor⟩:=iB h;rcases hor with ⟨fi,hl,hu,l6⟩|⟨hl,_⟩
 ·obtain rfl:len=fi:=by simpa using hl
  obtain ⟨b,ob,u,l,hv,hR,hc,hr⟩:=lJ (hx ▸ hs x x' h1);have kf:=J4 (m5 ▸ hs i i' h2);refine GX hm (u := .pointer (some ⟨b,ob+n.toNat*a6,none⟩)) ?_ (.ca (.one (.o6 _ b (ob+n.toNat*a6) (λ j=>u (n.toNat*a6+j)) l (λ hne=>hR (λ e=>hne (by simp [e]))) (λ j c hj => ?_) (λ j c hj => ?_))))
  ·simp [execOp,g6,hv,kf,Instr.indexAt,asIntOf,run_underlying hu,Instr.sureAddr,sizeOf,typeInfo,hi,o7,h0,hn,KJ]
  ·rw[List.getElem?_drop]at hj
   rw[Nat.add_assoc];exact hc _ c hj
  ·rw[List.getElem?_drop]at hj
   exact hr _ c hj
 ·cases hl
theorem Ey (ty e:TypeId) (inf:TypeInfo) (hu:P.underlying ty=some (.slice e)) (hi:P.info? e=some inf) (ad:Addr) (len cap:Nat) (k:IntKind) (n:Int) (h0:0<=n) (hn:n<len) (w:World) :
  (Instr.indexAt ty (.slice (some ad) len cap) (.int k n)).run P w = .ok (.pointer (some (ad.add (n.toNat*inf.size)))) w:=by
 simp [Instr.indexAt,asIntOf,run_underlying hu,sizeOf,typeInfo,hi,h0,hn]
theorem Tx (hm:DJ B S w0 m) (hs:EI B S m ρ a.eval) {a6:Nat} {x' i':B8} (h:CT P num o.op (.a4 none a6 x' i')=true) {k:IntKind} {n:Int} {s t z off len:Nat} (m5:ρ i' = .int k n) (hx:ρ x' = .row s t z off len) (h0:0<=n) (hn:n<len) (hz:z=a6) :
  EO B S w0 P o a m (.val (.ptr s t (off+n.toNat) 0)):=by
 obtain ⟨ty,x,i,e,inf,g6,h1,h2,hi,o7,hor⟩:=iB h;rcases hor with ⟨_,hl,_⟩|⟨_,hu,_⟩
 ·cases hl
 ·obtain ⟨ad,cap,hv,ht,y8,gf,ha,hb⟩:=XD (hx ▸ hs x x' h1)
  have kf:=J4 (m5 ▸ hs i i' h2);obtain ⟨sj,rfl⟩:=Option.isSome_iff_exists.1 (ha (by omega));refine GX hm (u := .pointer (some (sj.add (n.toNat*a6)))) ?_ (.ca (.one (.ptr s t (off+n.toNat) 0 _ ht λ b g7 => ?_)))
  ·simp only[execOp,g6,hv,kf,Sem.run_bind]
   rw[Ey ty e inf hu hi sj len cap k n h0 hn,o7];rfl
  ·obtain ⟨dj,hor⟩:=hb b g7
   rcases hor with ⟨hl0,_⟩|⟨g,arr,e',hg,ea,_,_⟩
   ·omega
   ·obtain rfl:sj=⟨g,off*z,none⟩:=by simpa using ea
    exact ⟨g,hg,by rw[KJ,dj,<-hz,Nat.add_mul];rfl⟩
theorem Tz (hm:DJ B S w0 m) (hs:EI B S m ρ a.eval) {a6:Nat} {x' i':B8} (h:CT P num o.op (.a4 none a6 x' i')=true) {k:IntKind} {n:Int} {l:Bool} {es:List (List AV)} {cs:List AV} (m5:ρ i' = .int k n) (hx:ρ x' = .sl l es) (h0:0<=n) (hn:es[n.toNat]? = some cs) (hz:cs.length=a6) :
  EO B S w0 P o a m (.val (.o6 cs)):=by
 obtain ⟨ty,x,i,e,inf,g6,h1,h2,hi,o7,hor⟩:=iB h;rcases hor with ⟨_,hl,_⟩|⟨_,hu,_⟩
 ·cases hl
 ·have iy:=gC (hx ▸ hs x x' h1)
  have kf:=J4 (m5 ▸ hs i i' h2);have l6:n.toNat<es.length:=(zS hn).1;generalize u5:a.eval x=v at iy;cases iy with
  | eo=>simp at l6
  | sl _ _ b ob o8 cap u hne hp hR u4 aw hc hr =>
   have wy:o8=a6:=by
    rw[<-hz];exact (aw cs (zM hn)).symm
   subst wy;refine GX hm (u := .pointer (some ⟨b,ob+n.toNat*o8,none⟩)) ?_ (.ca (.one (.o6 _ b (ob+n.toNat*o8) (u n.toNat) l (λ_=>hR) (λ j c hj => ?_) (λ j c hj=>hr _ cs hn j c hj))))
   ·simp only[execOp,g6,u5,kf,Sem.run_bind]
    rw[Ey ty e inf hu hi ⟨b,ob,none⟩ es.length cap k n h0 (by omega),o7,KJ];rfl
   ·rw[Nat.add_assoc]
    exact hc _ cs hn j c hj
end
end Go.Eng
namespace Go.Eng
open Go.RowKit
section
variable {B:Nat} {S:Nat->Prop} {w0:World} {m:M}
variable {P:Program} {num:Nat->Nat} {o:Oper} {a:Act} {ρ:B8->AV}
theorem pO (t:TypeId) (agg:Bool) (n:Nat) (bz : ∀ w,(isAgg t).run P w = .ok agg w) (hn:if agg then ∃ i,P.info? t=some i/\i.size=n else n=1) (ad:Addr) (vs:List Value) (hl:vs.length=n) (w:World)
  (hc : ∀ q v,vs[q]? = some v->w.cell? (ad.add q)=some v):(Instr.loadAt t (.pointer (some ad))).run P w = .ok (if agg then .agg vs.toArray else vs.getD 0 undef) w:=by
 unfold Instr.loadAt loadVar;simp only[Instr.sureAddr,Sem.run_bind,Sem.run_pure,Result.andThen_ok,bz w];cases agg with
 | true =>
  simp only[if_true]at hn;obtain ⟨i,hi,hs⟩:=hn;have:=run_loadCells_list (P:=P) w ad vs hc
  simp [sizeOf,typeInfo,hi,hs,<-hl,this]
 | false =>
  simp only[Bool.false_eq_true,if_false]at hn ⊢;have l6:0<vs.length:=by omega
  have h0:=hc 0 vs[0] (zE l6);have nf:w.cell? ad=some vs[0]:=by simpa [Addr.add] using h0
  simp [load,Sem.run,nf,l6]
theorem Cm (hm:DJ B S w0 m) {s t i j n:Nat} {cs:List AV} (h:m.own.jb s t i j n=some cs) : ∃ b g arr e,m.own.get s t=some b/\(0<n->m.ν s t=some g/\m.w.heap[g]? = some (.cells arr e (0,0))) /\
  ∃ vs:List Value,vs.length=n/\CL B S m cs vs /\ ∀ q v,vs[q]? = some v->arr[i*b.a6+j+q]? = some v:=by
 unfold BT.jb at h;cases hb:m.own.get s t with
 | none=>simp [hb]at h
 | some b =>
  simp only[hb]at h;cases he:b.es[i]? with
  | none=>simp [he]at h
  | some ds =>
   simp only[he,part]at h;split at h
   ·rename_i hle
    obtain rfl:(ds.drop j).take n=cs:=by simpa using h
    obtain ⟨hz,hmat⟩:=hm.blk s t b hb;cases hν:m.ν s t with
    | none =>
     rw[hν]at hmat;rw[hmat]at he;simp at he
    | some g =>
     rw[hν]at hmat;obtain ⟨hB,arr,e,hh,hcc⟩:=hmat;have o7 : ∀ q,q<n -> ∃ u,arr[i*b.a6+j+q]? = some u:=λ q hq=>by
      have l6:j+q<ds.length:=by omega
      obtain ⟨u,hu,_⟩:=hcc i ds he (j+q) ds[j+q] (zE l6);exact ⟨u,by rw[<-hu];congr 1;omega⟩
     refine ⟨b,g,arr,e,rfl,λ_=>⟨rfl,hh⟩,(arr.toList.drop (i*b.a6+j)).take n,?_,⟨?_,?_⟩,?_⟩
     ·rw[List.length_take,List.length_drop]
      rcases Nat.eq_zero_or_pos n with h0|h0
      ·omega
      ·obtain ⟨u,hu⟩:=o7 (n-1) (by omega)
       have:=(Array.getElem?_eq_some_iff.1 hu).1
       simp;omega
     ·rw[List.length_take,List.length_take,List.length_drop,List.length_drop]
      rcases Nat.eq_zero_or_pos n with h0|h0
      ·omega
      ·obtain ⟨u,hu⟩:=o7 (n-1) (by omega)
       have:=(Array.getElem?_eq_some_iff.1 hu).1
       simp;omega
     ·intro q c v hq hv
      rw[List.getElem?_take]at hq hv;split at hq
      ·rename_i vp
       rw[if_pos vp]at hv;rw[List.getElem?_drop]at hq hv;obtain ⟨u,hu,hc⟩:=hcc i ds he (j+q) c hq;have:some u=some v:=by
        rw[<-hu,<-hv];simp only[Array.getElem?_toList];congr 1;omega
       obtain rfl:u=v:=by simpa using this
       exact hc
      ·cases hq
     ·intro q v hv
      rw[List.getElem?_take]at hv;split at hv
      ·rw[List.getElem?_drop]at hv
       simpa using hv
      ·cases hv
   ·cases h
theorem fP {w:World} {g p:Nat} {arr:Array Value} {e:TypeId} (h:w.heap[g]? = some (.cells arr e (0,0))):w.cell? ⟨g,p,none⟩=arr[p]? := by
 simp [World.cell?,h]
theorem Uc (hm:DJ B S w0 m) (hs:EI B S m ρ a.eval) {agg:Bool} {n:Nat} {x':B8} (h:CT P num o.op (.ld agg n x')=true) {s t i j:Nat} {cs:List AV} {v:AV} (hx:ρ x' = .ptr s t i j) (hl:m.own.jb s t i j n=some cs) (hv:ME agg cs=some v) :
  EO B S w0 P o a m (.val v):=by
 obtain ⟨ty,x,g6,h1,bz,hn⟩:=Dr h;obtain ⟨ad,u5,ht,hb⟩:=ZH (hx ▸ hs x x' h1);obtain ⟨b,g,arr,e,l7,hg,vs,hvl,hcl,dw⟩:=Cm hm hl;obtain ⟨q5,_⟩:=cS hv hcl;refine GX hm ?_ q5;simp only[execOp,g6,Sem.run_bind,u5];rw[pO ty agg n bz hn ad vs hvl m.w (λ q u hq => ?_)]
 ·rfl
 ·have l6:q<vs.length:=(zS hq).1
  obtain ⟨rh,fb⟩:=hg (by omega);obtain ⟨g',ae,rfl⟩:=hb b l7;obtain rfl:g=g':=by rw[rh]at ae;simpa using ae
  rw[KJ,fP fb];exact dw q u hq
theorem Ub (hm:DJ B S w0 m) (hs:EI B S m ρ a.eval) {agg:Bool} {n:Nat} {x':B8} (h:CT P num o.op (.ld agg n x')=true) {cs ds:List AV} {v:AV} (hx:ρ x' = .o6 cs) (hl:part cs 0 n=some ds) (hv:ME agg ds=some v) :
  EO B S w0 P o a m (.val v):=by
 obtain ⟨ty,x,g6,h1,bz,hn⟩:=Dr h;obtain ⟨b,ob,u,l,u5,hR,hc,hr⟩:=lJ (hx ▸ hs x x' h1);unfold Eng.part at hl;split at hl
 ·rename_i hle
  obtain rfl:(cs.drop 0).take n=ds:=by simpa using hl
  have hcl:CL B S m ((cs.drop 0).take n) ((List.range n).map u):=by
   refine ⟨by simp;omega,λ q c v' hq jq => ?_⟩;simp only[List.drop_zero,List.getElem?_take]at hq;split at hq
   ·rename_i vp
    simp [vp]at jq;subst jq;exact .rd (hr q c hq)
   ·cases hq
  obtain ⟨q5,_⟩:=cS hv hcl;refine GX hm ?_ q5;simp only[execOp,g6,Sem.run_bind,u5];rw[pO ty agg n bz hn ⟨b,ob,none⟩ ((List.range n).map u) (by simp) m.w (λ q w' hq => ?_)]
  ·rfl
  ·have vp:q<n:=by have:=(zS hq).1;simpa using this
   simp [vp]at hq;subst hq;rw[KJ];exact hc q cs[q] (zE (by omega))
 ·cases hl
theorem jN {α:Type} (l:List α) (off:Nat) (vs:List α) (h:off+vs.length<=l.length) (q:Nat):(l.take off++vs++l.drop (off+vs.length))[q]? = if q<off then l[q]? else if q<off+vs.length then vs[q-off]? else l[q]? := by
 rw[List.append_assoc];by_cases h1:q<off
 ·rw[if_pos h1,List.getElem?_append_left (by simp;omega),List.getElem?_take,if_pos h1]
 ·rw[if_neg h1,List.getElem?_append_right (by simp;omega)]
  have e1:(l.take off).length=off:=by simp;omega
  rw[e1];by_cases h2:q<off+vs.length
  ·rw[if_pos h2,List.getElem?_append_left (by omega)]
  ·rw[if_neg h2,List.getElem?_append_right (by omega),List.getElem?_drop]
   congr 1;omega
theorem kS (hm:DJ B S w0 m) {g:Nat} (hB:B<=g) (arr:Array Value):Below B w0 (m.w.setRow g arr) :=
 hm.below.trans ⟨rfl,rfl,rfl,by simp,λ k hk=>setRow_other _ _ _ _ (by omega)⟩
theorem wB (hm:DJ B S w0 m) (hs:EI B S m ρ a.eval) {n:Nat} {x' v':B8} (h:CT P num o.op (.st n x' v')=true) {s t i j:Nat} {vs:List AV} {l8:BT} (hx:ρ x' = .ptr s t i j) (hv:cellsOf (ρ v')=some vs) (hn:vs.length=n) (hst:m.own.fm s t i j vs=some l8) :
  EO B S w0 P o a m (.af (.tup []) l8):=by
 obtain ⟨ty,x,v,inf,g6,h1,h2,hi,o7⟩:=Ajo h;obtain ⟨ad,u5,ht,hb⟩:=ZH (hx ▸ hs x x' h1);have hcl:=gA (hs v v' h2) hv;unfold BT.fm at hst;cases l7:m.own.get s t with
 | none=>simp [l7]at hst
 | some b =>
  simp only[l7]at hst;cases he:b.es[i]? with
  | none=>simp [he]at hst
  | some cs =>
   simp only[he]at hst;split at hst
   ·rename_i hle
    obtain rfl:=Option.some.inj hst;obtain ⟨hz,hmat⟩:=hm.blk s t b l7;obtain ⟨g,hg,rfl⟩:=hb b l7;rw[hg]at hmat;obtain ⟨hB,arr,e,hh,hcc⟩:=hmat;have kx:cs.length=b.a6:=hz cs (zM he);have hlen:(a.eval v).cells.toList.length=vs.length:=hcl.1.symm;have hil:i<b.es.length:=(zS he).1;have rj:i*b.a6+j+vs.length<=arr.size:=by
     rcases Nat.eq_zero_or_pos vs.length with h0|h0
     ·rcases Nat.eq_zero_or_pos j with hj0|hj0
      ·rw[h0,hj0]
       rcases Nat.eq_zero_or_pos i with ia|ia
       ·rw[ia];omega
       ·rcases Nat.eq_zero_or_pos b.a6 with y8|y8
        ·rw[y8];omega
        ·have td:i-1<b.es.length:=by omega
         have hl1:(b.es[i-1]).length=b.a6:=hz _ (List.getElem_mem td);obtain ⟨u,hu,_⟩:=hcc (i-1) _ (zE td) (b.a6-1) _ (zE (by omega));have:=(Array.getElem?_eq_some_iff.1 hu).1
         have e1:(i-1)*b.a6+b.a6=i*b.a6:=by
          rw[<-Nat.succ_mul];congr 1;omega
         omega
      ·obtain ⟨u,hu,_⟩:=hcc i cs he (j-1) cs[j-1] (zE (by omega))
       have:=(Array.getElem?_eq_some_iff.1 hu).1
       omega
     ·obtain ⟨u,hu,_⟩:=hcc i cs he (j+vs.length-1) cs[j+vs.length-1] (zE (by omega))
      have:=(Array.getElem?_eq_some_iff.1 hu).1
      omega
    have cj:=Rj hcl;have me:=run_storeCells_at (P:=P) g (i*b.a6+j) e (a.eval v).cells.toList 0 arr m.w hh (by rw[hlen];omega) cj;generalize ct:(arr.toList.take (i*b.a6+j+0)++(a.eval v).cells.toList++arr.toList.drop (i*b.a6+j+0+(a.eval v).cells.toList.length)).toArray=n9 at me;have oo : ∀ p,n9[p]? = if p<i*b.a6+j then arr[p]? else if p<i*b.a6+j+vs.length then (a.eval v).cells.toList[p-(i*b.a6+j)]? else arr[p]? := λ p=>by
     rw[<-ct];simp only[Nat.add_zero,List.getElem?_toArray];rw[jN _ _ _ (by rw[hlen];simpa using rj),hlen];simp only[Array.getElem?_toList]
    have dv:n9.size=arr.size:=by
     rw[<-ct];simp [hlen];have:=hlen
     simp at this;omega
    obtain ⟨k1,k2⟩:=Gw hm s t b ⟨b.a6,b.es.set i (splice cs j vs)⟩ l7 g hg arr n9 e hh rfl (λ y hy=>by
      rcases List.mem_or_eq_of_mem_set hy with hy|hy
      ·exact hz y hy
      ·rw[hy,<-kx];simp [splice];omega) dv
     (λ i' az m5 q c hq=>by
      show ∃ u,n9[i'*b.a6+q]? = some u/\_;change (b.es.set i (splice cs j vs))[i']? = some az at m5;by_cases Ja:i'=i
      ·subst Ja
       rw[List.getElem?_set_self hil]at m5;obtain rfl:splice cs j vs=az:=by simpa using m5
       unfold splice at hq;rw[jN _ _ _ hle]at hq;rw[oo];by_cases nv:q<j
       ·rw[if_pos nv]at hq
        rw[if_pos (by omega)];exact hcc i' cs he q c hq
       ·rw[if_neg nv]at hq
        rw[if_neg (by omega)];by_cases tj:q<j+vs.length
        ·rw[if_pos tj]at hq
         rw[if_pos (by omega)];obtain ⟨u,hu,z0⟩:=ZF hcl hq;exact ⟨u,by rw[<-hu];congr 1;omega,z0⟩
        ·rw[if_neg tj]at hq
         rw[if_neg (by omega)];exact hcc i' cs he q c hq
      ·rw[List.getElem?_set_ne (by omega)]at m5
       have hql:q<b.a6:=by
        rw[<-hz az (zM m5)];exact (zS hq).1
       obtain ⟨u,hu,z0⟩:=hcc i' az m5 q c hq;refine ⟨u,?_,z0⟩;rw[oo,<-hu];rcases Nat.lt_or_gt_of_ne Ja with l6|jv
       ·have:(i'+1)*b.a6<=i*b.a6:=Nat.mul_le_mul_right _ l6
        rw[Nat.succ_mul]at this;rw[if_pos (by omega)]
       ·have:(i+1)*b.a6<=i'*b.a6:=Nat.mul_le_mul_right _ jv
        rw[Nat.succ_mul]at this;rw[if_neg (by omega),if_neg (by omega)])
     (m.w.setRow g n9) (kS hm hB n9) (by simp) (λ k hk=>setRow_other _ _ _ _ hk) (setRow_heap _ _ _ _ _ _ hh)
    intro K Q hK;refine Aly (w':=m.w.setRow g n9) ?_ (hK undef ⟨m.ν,_,m.w.setRow g n9⟩ rfl k1 k2 Ek);have Bi:(a.eval v).cells.size=inf.size:=by rw[o7,<-hn,<-hlen];simp
    simp only[execOp,g6,u5,Instr.storeAt,storeVar,Instr.sureAddr,Sem.run_bind,Sem.run_pure,Result.andThen_ok,sizeOf,typeInfo,run_program,hi];rw[if_neg (by simpa using Bi)];simp only[Sem.run_bind,Sem.run_pure,Result.andThen_ok,me]
   ·cases hst
theorem Ue (hm:DJ B S w0 m) (hs:EI B S m ρ a.eval) {s a6 bytes:Nat} {zero:List AV} {l' c':B8} (h:CT P num o.op (.mk s a6 bytes zero l' c')=true) {kl kc:IntKind} {l c:Int} (hl:ρ l' = .int kl l) (hc:ρ c' = .int kc c) (h0:0<=l) (gf:l<=c) (hb:c*bytes<=F3) (qf:c<=9223372036854775807) (hz:zero.length=a6) :
  EO B S w0 P o a m (.new s ⟨a6,List.replicate l.toNat zero⟩ (λ t => .row s t a6 0 l.toNat)):=by
 obtain ⟨ty,lx,cx,e,inf,z,g6,h1,h2,hu,hi,o7,iw,y8,aw,hne⟩:=Ajf h;have el:=J4 (hl ▸ hs lx l' h1);have ec:=J4 (hc ▸ hs cx c' h2);have hcl:CL B S m zero z.cells.toList:=ZL aw;have hzs:z.cells.size=a6:=by rw[<-hz,hcl.1];simp
 refine vZ hm s a6 l.toNat c.toNat _ (madeCells z.cells (c.toNat*inf.size)) e (Nat.pos_of_ne_zero hne) (by omega) (by rw[size_madeCells,o7];exact Nat.le_refl _) (λ x hx=>by rw[(List.mem_replicate.1 hx).2,hz]) (λ i cs m5 j c1 hj => ?_) ?_
 ·rw[List.getElem?_replicate]at m5
  split at m5
  ·rename_i hil
   obtain rfl:zero=cs:=by simpa using m5
   obtain ⟨u,bf,z0⟩:=ZF hcl hj;refine ⟨u,?_,z0⟩;have hjl:j<a6:=by rw[<-hz];exact (zS hj).1
   have l6:i*a6+j<c.toNat*inf.size:=by
    rw[o7];have h3:(i+1)*a6<=c.toNat*a6:=Nat.mul_le_mul_right _ (by omega);rw[Nat.succ_mul]at h3;omega
   have An:(i*a6+j)%z.cells.size=j:=by rw[hzs,Nat.add_comm,Nat.add_mul_mod_self_right,Nat.mod_eq_of_lt hjl]
   have tn:z.cells[j]? = some u:=by simpa using bf
   have hjs:j<z.cells.size:=(Array.getElem?_eq_some_iff.1 tn).1;have hul:z.cells[j]=u:=(Array.getElem?_eq_some_iff.1 tn).2;simp [madeCells,l6,An,hjs,hul]
  ·cases m5
 ·have:=run_make (P:=P) m.w ty e inf z hu hi y8 kl kc l c h0 gf (by rw[iw,Int.mul_comm];simp only[F3]at hb;omega) qf
  simp only[execOp,g6,el,ec,Sem.run_bind,this,Result.andThen_ok,Sem.run_pure]
theorem Qd (hm:DJ B S w0 m) (hs:EI B S m ρ a.eval) {x':B8} {i:Nat} (h:CT P num o.op (.ext x' i)=true) {vs:List AV} {v:AV} (hx:ρ x' = .tup vs) (hv:vs[i]? = some v):EO B S w0 P o a m (.val v):=by
 obtain ⟨x,g6,h1⟩:=Xe h;obtain ⟨us,u5,hl,hc⟩:=lK (hx ▸ hs x x' h1);have l6:i<us.length:=by rw[<-hl];exact (zS hv).1
 refine GX hm (u:=us[i]) ?_ (.ca (hc i v us[i] hv (zE l6)));simp [execOp,g6,u5,Instr.extract,l6]
theorem Ud (hm:DJ B S w0 m) (hs:EI B S m ρ a.eval) {x':B8} (h:CT P num o.op (.len x')=true) {n:Nat} (hx:lenOf (ρ x')=some n):EO B S w0 P o a m (.val (.int .i64 n)):=by
 obtain ⟨x,t,e,g6,h1,hu⟩:=Aje h;have q5:=hs x x' h1;obtain ⟨ad,cap,u5⟩ : ∃ ad cap,a.eval x = .slice ad n cap:=by
  generalize ρ x'=av at *;cases av with
  | sl l es =>
   have hr:=gC q5;simp only[lenOf,Option.some.injEq]at hx;subst hx;generalize a.eval x=v at *;cases hr with
   | eo=>exact ⟨_,_,rfl⟩
   | sl=>exact ⟨_,_,rfl⟩
  | row s t z off len =>
   obtain ⟨ad,cap,hv,_⟩:=XD q5;simp only[lenOf,Option.some.injEq]at hx;subst hx;exact ⟨ad,cap,hv⟩
  | nil =>
   simp only[lenOf,Option.some.injEq]at hx;subst hx;exact ⟨_,_,UU q5⟩
  | _=>simp [lenOf]at hx
 refine GX hm (u := .int .i64 n) ?_ (PL _ _);simp [execOp,g6,resolve,invoke,builtin,u5,Builtin.len_,run_underlying hu,goInt]
theorem Qa (hm:DJ B S w0 m) (hs:EI B S m ρ a.eval) {x':B8} (h:CT P num o.op (.bh x')=true) (hx:ρ x' = .nil):EO B S w0 P o a m (.val (.int .i64 0)):=by
 obtain ⟨x,t,e,g6,h1,hu⟩:=Xb h;have u5:=UU (hx ▸ hs x x' h1);refine GX hm (u := .int .i64 0) ?_ (PL _ _);simp [execOp,g6,resolve,invoke,builtin,u5,Builtin.cap_,run_underlying hu,goInt]
theorem ZK (hs:EI B S m ρ a.eval) : ∀ {xs:List Operand} {ys:List B8},G2 xs ys=true->xs.length=ys.length /\ ∀ (j:Nat) (x:Operand) (y:B8),xs[j]? = some x->ys[j]? = some y->CV B S m (ρ y) (a.eval x)
 | [],[],_=>⟨rfl,λ j x y h=>by simp at h⟩
 | x::r,y::l,h=>by
  simp only[G2,Bool.and_eq_true]at h;obtain ⟨ih1,ig⟩:=ZK hs h.2;refine ⟨by simp [ih1],λ j x' y' hx hy => ?_⟩;cases j with
  | zero=>simp at hx hy;subst hx hy;exact hs _ _ h.1
  | succ j=>exact ig j x' y' (by simpa using hx) (by simpa using hy)
 | [],_::_,h=>by simp [G2]at h
 | _::_,[],h=>by simp [G2]at h
theorem Ez (mx:Bool) (hs:EI B S m ρ a.eval) (w:World) : ∀ (xs:List Operand) (ys:List B8) (v:AV) (u:Value) (r:AV),G2 xs ys=true->CV B S m v u->N8 mx v (ys.map ρ)=some r->(∃ k n,v = .int k n) -> ∃ k n,r = .int k n /\
  ((xs.map a.eval).foldlM (if mx then Builtin.max2 else Builtin.min2) u).run P w = .ok (.int k n) w
 | [],[],v,u,r,_,hc,hm,⟨k,n,hv⟩=>by
  simp only[List.map_nil,N8,Option.some.injEq]at hm;subst hm hv;obtain rfl:=J4 hc;exact ⟨k,n,rfl,by simp⟩
 | x::xr,y::yr,v,u,r,he,hc,hm,⟨k,n,hv⟩=>by
  simp only[G2,Bool.and_eq_true]at he;simp only[List.map_cons,N8]at hm;have hx:=hs x y he.1;subst hv;obtain rfl:=J4 hc;cases hy:ρ y with
  | int k' n' =>
   rw[hy]at hx hm;have hxe:=J4 hx;simp only[U9]at hm;obtain ⟨k2,n2,rfl,h2⟩:=Ez mx hs w xr yr _ (.int k (if mx then (if n'>n then n' else n) else (if n'<n then n' else n))) r he.2 (PL _ _) hm ⟨_,_,rfl⟩;refine ⟨k2,n2,rfl,?_⟩;simp only[List.map_cons,List.foldlM_cons,Sem.run_bind,hxe];cases mx
   ·simpa [Builtin.min2] using h2
   ·simpa [Builtin.max2] using h2
  | _=>rw[hy]at hm;simp [U9]at hm
 | [],_::_,_,_,_,he,_,_,_=>by simp [G2]at he
 | _::_,[],_,_,_,he,_,_,_=>by simp [G2]at he
theorem Ug (hm:DJ B S w0 m) (hs:EI B S m ρ a.eval) {mx:Bool} {m8:List B8} (h:CT P num o.op (.mm mx m8)=true) {v r:AV} {l:List AV} (hx:m8.map ρ=v::l) (hv:N8 mx v l=some r) (hi : ∃ k n,v = .int k n):EO B S w0 P o a m (.val r):=by
 obtain ⟨xs,ts,g6,he⟩:=Ds h;cases m8 with
 | nil=>simp at hx
 | cons y yr =>
  simp only[List.map_cons,List.cons.injEq]at hx;obtain ⟨rfl,rfl⟩:=hx;obtain ⟨xl⟩:=xs;cases xl with
  | nil=>simp [G2]at he
  | cons x xr =>
   simp only[G2,Bool.and_eq_true]at he;obtain ⟨k,n,rfl,m7⟩:=Ez (P:=P) mx hs m.w xr yr (ρ y) (a.eval x) r he.2 (hs x y he.1) hv hi;refine GX hm (u := .int k n) ?_ (PL _ _);cases mx
   ·simp only[execOp,g6,resolve,invoke,builtin,Builtin.min_,Sem.run_bind,Sem.run_pure,Result.andThen_ok]at m7 ⊢
    simp at m7 ⊢;rw[m7];rfl
   ·simp only[execOp,g6,resolve,invoke,builtin,Builtin.max_,Sem.run_bind,Sem.run_pure,Result.andThen_ok]at m7 ⊢
    simp at m7 ⊢;rw[m7];rfl
end
end Go.Eng

namespace Go.Eng
open Go.RowKit
section
variable {B:Nat} {S:Nat->Prop} {w0:World} {m:M}
variable {P:Program} {num:Nat->Nat} {o:Oper} {a:Act} {ρ:B8->AV}
def KL (ρ:B8->AV) (d:Nat):Option B8->Option Int
 | none=>some d
 | some y=>match ρ y with | .int _ n=>some n|_=>none
theorem jF (ty e:TypeId) (inf:TypeInfo) (hu:P.underlying ty=some (.slice e)) (hi:P.info? e=some inf) (hs:EI B S m ρ a.eval) {lo m5:Option Operand} {ij uz:Option B8} (ib:T4 lo ij=true) (xv:T4 m5 uz=true)
  (ad:Option Addr) (len cap:Nat) (l h:Int) (hl:KL ρ 0 ij=some l) (hh:KL ρ len uz=some h) (h0:0<=l) (hlh:l<=h) (hhl:h<=len) (gf:len<=cap) (w:World) :
  (Instr.sliceAt ty (.slice ad len cap) (lo.map a.eval) (m5.map a.eval) none).run P w = .ok (.slice (if cap=l.toNat then ad else ad.map (·.add (l.toNat*inf.size))) (h.toNat-l.toNat) (cap-l.toNat)) w:=by
 have kf : ∀ {x:Option Operand} {y:Option B8} {d:Nat} {n:Int},T4 x y=true->KL ρ d y=some n->(x=none/\y=none/\n=d) \/ ∃ x' k,x=some x'/\a.eval x' = .int k n:=by
  intro x y d n gk hb;cases x with
  | none=>cases y with
   | none=>simp [KL]at hb;exact .inl ⟨rfl,rfl,hb.symm⟩
   | some y=>simp [T4]at gk
  | some x=>cases y with
   | none=>simp [T4]at gk
   | some y =>
    simp only[T4]at gk;simp only[KL]at hb;cases hy:ρ y with
    | int k q =>
     rw[hy]at hb;simp only[Option.some.injEq]at hb;subst hb;exact .inr ⟨x,k,rfl,J4 (hy ▸ hs x y gk)⟩
    | _=>rw[hy]at hb;cases hb
 have ov:h<=(cap:Int):=by omega
 unfold Instr.sliceAt Instr.slice Instr.sliceBounds;rcases kf ib hl with ⟨rfl,_,rfl⟩|⟨x1,k1,rfl,e1⟩<;>rcases kf xv hh with ⟨rfl,_,rfl⟩|⟨x2,k2,rfl,e2⟩
 ·simp [run_underlying hu,sizeOf,typeInfo,hi]
 ·have jt:=run_sliceBound (P:=P) w k2 h cap .sliceAcap (by omega) ov
  simp [run_underlying hu,sizeOf,typeInfo,hi,e2,jt]
 ·have o4:=run_sliceBound (P:=P) w k1 l len .sliceB h0 (by omega)
  simp [run_underlying hu,sizeOf,typeInfo,hi,e1,o4]
 ·have jt:=run_sliceBound (P:=P) w k2 h cap .sliceAcap (by omega) ov
  have o4:=run_sliceBound (P:=P) w k1 l h.toNat .sliceB h0 (by omega);simp [run_underlying hu,sizeOf,typeInfo,hi,e1,e2,jt,o4]
theorem Ul (hm:DJ B S w0 m) (hs:EI B S m ρ a.eval) {a6:Nat} {x':B8} {ij m5:Option B8} (h:CT P num o.op (.ay a6 x' ij m5)=true) (hx:ρ x' = .nil) (hl:KL ρ 0 ij=some 0) (hh:KL ρ 0 m5=some 0):EO B S w0 P o a m (.val .nil):=by
 obtain ⟨ty,x,lo,hi2,e,inf,g6,h1,h2,h3,hu,hi,o7,hne⟩:=nY h;have u5:=UU (hx ▸ hs x x' h1);have m7:=jF ty e inf hu hi hs h2 h3 none 0 0 0 0 hl hh (by omega) (by omega) (by omega) (by omega) m.w;refine GX hm (u := .slice none 0 0) ?_ (.ca (.one .nil));simp only[execOp,g6,u5,Sem.run_bind,Option.map_none,m7];rfl
theorem Um (hm:DJ B S w0 m) (hs:EI B S m ρ a.eval) {a6:Nat} {x':B8} {ij m5:Option B8} (h:CT P num o.op (.ay a6 x' ij m5)=true) {s t z off len:Nat} {l u:Int} (hx:ρ x' = .row s t z off len) (hl:KL ρ 0 ij=some l) (hh:KL ρ len m5=some u) (h0:0<=l) (ya:l<=u) (hul:u<=len) (hz:z=a6) :
  EO B S w0 P o a m (.val (.row s t z (off+l.toNat) (u.toNat-l.toNat))):=by
 obtain ⟨ty,x,lo,hi2,e,inf,g6,h1,h2,h3,hu,hi,o7,hne⟩:=nY h;obtain ⟨ad,cap,u5,ht,y8,gf,ha,hb⟩:=XD (hx ▸ hs x x' h1);have m7:=jF ty e inf hu hi hs h2 h3 ad len cap l u hl hh h0 ya hul gf m.w;refine GX hm ?_ (.ca (.one (.row s t z (off+l.toNat) (u.toNat-l.toNat) (if cap=l.toNat then ad else ad.map (·.add (l.toNat*inf.size))) (cap-l.toNat) ht y8 (by omega) (λ hp => ?_) λ b g7 => ?_)))
 ·simp only[execOp,g6,u5,Sem.run_bind,Option.map_none,m7]
  rfl
 ·rw[if_neg (by omega)]
  obtain ⟨sj,rfl⟩:=Option.isSome_iff_exists.1 (ha (by omega));rfl
 ·obtain ⟨dj,hor⟩:=hb b g7
  refine ⟨dj,?_⟩;rcases hor with ⟨hl0,hc0⟩|⟨g,arr,e',hg,ea,xu,hle⟩
  ·exact .inl ⟨by omega,by omega⟩
  ·by_cases hc:cap=l.toNat
   ·exact .inl ⟨by omega,by omega⟩
   ·refine .inr ⟨g,arr,e',hg,?_,xu,?_⟩
    ·rw[if_neg hc,ea,o7,hz]
     simp only[Option.map_some,KJ,Nat.add_mul]
    ·rw[show off+l.toNat+(cap-l.toNat)=off+cap by omega]
     exact hle
theorem Un (hm:DJ B S w0 m) (hs:EI B S m ρ a.eval) {a6:Nat} {x':B8} {ij m5:Option B8} (h:CT P num o.op (.ay a6 x' ij m5)=true) {lt:Bool} {es:List (List AV)} {l u:Int} (hx:ρ x' = .sl lt es) (hl:KL ρ 0 ij=some l) (hh:KL ρ es.length m5=some u) (h0:0<=l) (ya:l<=u) (hul:u<=es.length) (hz : ∀ e∈es,e.length=a6) :
  EO B S w0 P o a m (.val (.sl lt ((es.take u.toNat).drop l.toNat))):=by
 obtain ⟨ty,x,lo,hi2,e,inf,g6,h1,h2,h3,hu,hi,o7,hne⟩:=nY h;have iy:=gC (hx ▸ hs x x' h1);generalize u5:a.eval x=v at iy;cases iy with
 | eo _ ad cap =>
  have m7:=jF ty e inf hu hi hs h2 h3 ad 0 cap l u hl hh h0 ya (by simpa using hul) (by omega) m.w;simp only[List.length_nil]at hul;rw[show (([]:List (List AV)).take u.toNat).drop l.toNat=[] by simp];refine GX hm (u := .slice (if cap=l.toNat then ad else ad.map (·.add (l.toNat*inf.size))) 0 (cap-l.toNat)) ?_ (.ca (.one (.rd (.eo lt _ _))));simp only[execOp,g6,u5,Sem.run_bind,Option.map_none,m7];rw[show u.toNat-l.toNat=0 by omega];rfl
 | sl _ _ b ob o8 cap uu lz hp hR u4 aw hc hr =>
  have m7:=jF ty e inf hu hi hs h2 h3 (some ⟨b,ob,none⟩) es.length cap l u hl hh h0 ya hul u4 m.w;have wy:o8=a6:=by
   cases es with
   | nil=>exact absurd rfl lz
   | cons q r=>rw[<-aw q (by simp),hz q (by simp)]
  subst wy;by_cases y8:u.toNat-l.toNat=0
  ·have:(es.take u.toNat).drop l.toNat=[]:=by
    apply List.eq_nil_of_length_eq_zero;simp;omega
   rw[this];refine GX hm (u := .slice (if cap=l.toNat then some ⟨b,ob,none⟩ else (some (⟨b,ob,none⟩:Addr)).map (·.add (l.toNat*inf.size))) 0 (cap-l.toNat)) ?_ (.ca (.one (.rd (Rd.eo lt _ _))));simp only[execOp,g6,u5,Sem.run_bind,Option.map_none,m7];rw[y8];rfl
  ·have hlen:((es.take u.toNat).drop l.toNat).length=u.toNat-l.toNat:=by simp;omega
   have l7 : ∀ i,i<u.toNat-l.toNat->((es.take u.toNat).drop l.toNat)[i]? = es[l.toNat+i]? := λ i m5=>by
    rw[List.getElem?_drop,List.getElem?_take,if_pos (by omega)]
   refine GX hm (u := .slice (some ⟨b,ob+l.toNat*o8,none⟩) ((es.take u.toNat).drop l.toNat).length (cap-l.toNat)) ?_ (.ca (.one (.rd (.sl lt _ b (ob+l.toNat*o8) o8 (cap-l.toNat) (λ i j=>uu (l.toNat+i) j) (λ e=>y8 (by rw[<-hlen,e];rfl)) hp hR (by rw[hlen];omega) (λ q hq=>aw q (List.mem_of_mem_take (List.mem_of_mem_drop hq))) (λ i q m5 j c hj => ?_) (λ i q m5 j c hj => ?_)))))
   ·simp only[execOp,g6,u5,Sem.run_bind,Option.map_none,m7]
    rw[if_neg (by omega),hlen,o7];simp only[Option.map_some,KJ];rfl
   ·have hil:i<u.toNat-l.toNat:=by rw[<-hlen];exact (zS m5).1
    rw[l7 i hil]at m5;rw[show ob+l.toNat*o8+(i*o8+j)=ob+((l.toNat+i)*o8+j) by rw[Nat.add_mul];omega];exact hc _ q m5 j c hj
   ·have hil:i<u.toNat-l.toNat:=by rw[<-hlen];exact (zS m5).1
    rw[l7 i hil]at m5;exact hr _ q m5 j c hj
structure aI (B:Nat) (S:Nat->Prop) (m:M) (a6:Nat) (ys:List (List AV)) (ad:Option Addr) (news:List Value):Prop where
 len:news.length=ys.length*a6
 cells : ∀ b,ad=some b -> ∀ j v,news[j]? = some v->m.w.cell? (b.add j)=some v
 some_:ys≠[]->ad.isSome=true
 rel : ∀ i cs,ys[i]? = some cs -> ∀ j c,cs[j]? = some c -> ∃ u,news[i*a6+j]? = some u/\CC B S m c u
theorem Qq (a6 i j:Nat) (h:j<a6):(i*a6+j)/a6=i/\(i*a6+j)%a6=j:=by
 constructor
 ·rw[Nat.add_comm,Nat.add_mul_div_right _ _ (by omega),Nat.div_eq_of_lt h,Nat.zero_add]
 ·rw[Nat.add_comm,Nat.add_mul_mod_self_right,Nat.mod_eq_of_lt h]
theorem bY (hm:DJ B S w0 m) {av:AV} {v:Value} (hc:CV B S m av v) {ys:List (List AV)} (he:G5 m.own av=some ys) {a6:Nat} (hz : ∀ e∈ys,e.length=a6) (h0:0<a6) :
  ∃ ad cap news,v = .slice ad ys.length cap/\aI B S m a6 ys ad news:=by
 cases av with
 | sl l es =>
  simp only[G5,Option.some.injEq]at he;subst he;cases gC hc with
  | eo _ ad cap=>exact ⟨ad,cap,[],rfl,by simp,λ b _ j v hv=>by simp at hv,λ h=>absurd rfl h,λ i cs hi=>by simp at hi⟩
  | sl _ _ b ob o8 cap uu lz hp hR u4 aw hcl hr =>
   have wy:o8=a6:=by
    cases es with
    | nil=>exact absurd rfl lz
    | cons q r=>rw[<-aw q (by simp),hz q (by simp)]
   subst wy;refine ⟨some ⟨b,ob,none⟩,cap,(List.range (es.length*o8)).map (λ k=>uu (k/o8) (k%o8)),rfl,by simp,λ b' g7 j v hv => ?_,λ_=>rfl,λ i cs hi j c hj => ?_⟩
   ·obtain rfl:(⟨b,ob,none⟩:Addr)=b':=by simpa using g7
    rw[List.getElem?_map]at hv;have hjl:j<es.length*o8:=by
     rcases Nat.lt_or_ge j (es.length*o8) with h|h
     ·exact h
     ·rw[List.getElem?_eq_none (by simpa using h)]at hv;cases hv
    rw[List.getElem?_range hjl]at hv;simp only[Option.map_some,Option.some.injEq]at hv;subst hv;have hd:j/o8<es.length:=Nat.div_lt_of_lt_mul (by rw[Nat.mul_comm];exact hjl);have Am:j%o8<o8:=Nat.mod_lt _ h0;have w5:(es[j/o8]).length=o8:=aw _ (List.getElem_mem hd);have:=hcl (j/o8) _ (zE hd) (j%o8) _ (zE (by rw[w5];exact Am))
    rw[KJ,<-this];congr 2;have:=Nat.div_add_mod j o8
    rw[Nat.mul_comm]at this;omega
   ·have hjl:j<o8:=by rw[<-aw cs (zM hi)];exact (zS hj).1
    have hil:i<es.length:=(zS hi).1;have l6:i*o8+j<es.length*o8:=by
     have:(i+1)*o8<=es.length*o8:=Nat.mul_le_mul_right _ hil
     rw[Nat.succ_mul]at this;omega
    obtain ⟨e1,e2⟩:=Qq o8 i j hjl;refine ⟨uu i j,?_,.rd (hr i cs hi j c hj)⟩;rw[List.getElem?_map,List.getElem?_range l6];simp [e1,e2]
 | nil =>
  simp only[G5,Option.some.injEq]at he;subst he;exact ⟨none,0,[],UU hc,by simp,λ b hb=>(by cases hb),λ h=>absurd rfl h,λ i cs hi=>by simp at hi⟩
 | row s t z off len =>
  obtain ⟨ad,cap,hv,ht,y8,gf,ha,hb⟩:=XD hc;simp only[G5]at he;cases l7:m.own.get s t with
  | none=>simp [l7]at he
  | some b =>
   simp only[l7]at he;split at he
   ·rename_i hle
    obtain ⟨hle,dj⟩:=hle;obtain rfl:=Option.some.inj he;have hyl:((b.es.drop off).take len).length=len:=by simp;omega
    obtain ⟨_,hor⟩:=hb b l7;by_cases hl0:len=0
    ·subst hl0
     refine ⟨ad,cap,[],by simpa using hv,by simp,λ b _ j v hv=>by simp at hv,λ h=>absurd (by simp) h,λ i cs hi=>by simp at hi⟩
    ·rcases hor with ⟨h1,_⟩|⟨g,arr,e',hg,ea,xu,Aoh⟩
     ·exact absurd h1 hl0
     ·obtain ⟨aw,hmat⟩:=hm.blk s t b l7
      rw[hg]at hmat;obtain ⟨hB,im,e2,lj,hcc⟩:=hmat;rw[xu]at lj;obtain ⟨rfl,rfl⟩:arr=im/\e'=e2:=by simpa using lj
      have hez:a6=z:=by
       have l6:off<b.es.length:=by omega
       have h1:b.es[off]∈(b.es.drop off).take len:=by
        have:((b.es.drop off).take len)[0]? = some b.es[off]:=by
         rw[List.getElem?_take,if_pos (by omega),List.getElem?_drop];simp [l6]
        exact zM this
       rw[<-hz _ h1,aw _ (List.getElem_mem l6),dj]
      subst hez;have o7:off*a6+len*a6<=arr.size:=by
       have:(off+len)*a6<=(off+cap)*a6:=Nat.mul_le_mul_right _ (by omega)
       rw[Nat.add_mul]at this;omega
      refine ⟨ad,cap,(arr.toList.drop (off*a6)).take (len*a6),by rw[hyl];exact hv,by rw[hyl];simp;omega,λ b' g7 j v jq => ?_,λ_=>by rw[ea];rfl,λ i cs hi j c hj => ?_⟩
      ·rw[ea]at g7
       obtain rfl:(⟨g,off*a6,none⟩:Addr)=b':=by simpa using g7
       rw[List.getElem?_take]at jq;split at jq
       ·rw[List.getElem?_drop]at jq
        rw[KJ,fP xu];simpa using jq
       ·cases jq
      ·rw[List.getElem?_take]at hi
       split at hi
       ·rename_i hil
        rw[List.getElem?_drop]at hi;have hjl:j<a6:=by rw[<-dj,<-aw cs (zM hi)];exact (zS hj).1
        obtain ⟨u,hu,z0⟩:=hcc (off+i) cs hi j c hj;refine ⟨u,?_,z0⟩;have l6:i*a6+j<len*a6:=by
         have:(i+1)*a6<=len*a6:=Nat.mul_le_mul_right _ hil
         rw[Nat.succ_mul]at this;omega
        rw[List.getElem?_take,if_pos l6,List.getElem?_drop,<-hu,dj];simp only[Array.getElem?_toList];congr 1;rw[Nat.add_mul];omega
       ·cases hi
   ·cases he
 | z9 v' =>
  cases v' with
  | bool b =>
   simp only[G5,Option.some.injEq]at he;subst he;obtain ⟨ad,cap,hv,_⟩:=vB hc;exact ⟨ad,cap,[],hv,by simp,λ b' g7 j v jq=>by simp at jq,λ h=>absurd rfl h,λ i cs hi=>by simp at hi⟩
  | _=>simp [G5]at he
 | _=>simp [G5]at he
theorem aI.one {a6:Nat} {ys:List (List AV)} {ad:Option Addr} {news:List Value} (h:aI B S m a6 ys ad news) (h0:0<a6) (hz : ∀ e∈ys,e.length=a6) : ∀ u∈news,u.oneCell'=true:=by
 intro u hu;obtain ⟨k,hk,rfl⟩:=List.getElem_of_mem hu;rw[h.len]at hk;have hd:k/a6<ys.length:=Nat.div_lt_of_lt_mul (by rw[Nat.mul_comm];exact hk);have Am:k%a6<a6:=Nat.mod_lt _ h0;have w5:(ys[k/a6]).length=a6:=hz _ (List.getElem_mem hd);obtain ⟨u',bf,hc⟩:=h.rel (k/a6) _ (zE hd) (k%a6) _ (zE (by rw[w5];exact Am));have hkk:k/a6*a6+k%a6=k:=by
  have:=Nat.div_add_mod k a6
  rw[Nat.mul_comm]at this;exact this
 rw[hkk]at bf;obtain rfl:news[k]=u':=by
  have:=(zS bf).2
  exact this
 exact hc.one
theorem aI.src {a6:Nat} {ys:List (List AV)} {ad:Option Addr} {news:List Value} (h:aI B S m a6 ys ad news) (h0:0<a6) (hz : ∀ e∈ys,e.length=a6) {t e:TypeId} (hu:P.underlying t=some (.slice e)) (cap:Nat):Src P a6 t (.slice ad ys.length cap) ys.length news m.w:=by
 cases ad with
 | none =>
  have jy:ys=[]:=by
   cases ys with
   | nil=>rfl
   | cons y r=>exact absurd (h.some_ (by simp)) (by simp)
  subst jy;have hn:news=[]:=List.eq_nil_of_length_eq_zero (by simpa using h.len);subst hn;exact Src.ofNil m.w hu cap
 | some b=>exact Src.ofSlice m.w hu b ys.length cap news h.len (h.cells b rfl) (h.one h0 hz)
theorem Dd (arr:Array Value) (off:Nat) (news:List Value) (h:off+news.length<=arr.size) (p:Nat):(arr.toList.take off++news++arr.toList.drop (off+news.length)).toArray[p]? = if p<off then arr[p]? else if p<off+news.length then news[p-off]? else arr[p]? := by
 simp only[List.getElem?_toArray];rw[jN _ _ _ (by simpa using h)];simp only[Array.getElem?_toList]
theorem Aks (t tx e ex:TypeId) (i:TypeInfo) (ht:P.underlying t=some (.slice e)) (hx:P.underlying tx=some (.slice ex)) (hi:P.info? e=some i) (g off je kb:Nat) (x:Value) (n:Nat) (news:List Value) (w:World) (hs:Src P i.size tx x n news w) (ak:je+n<=kb) (arr:Array Value) (e':TypeId)
  (hh:w.heap[g]? = some (.cells arr e' (0,0))) (o7:off+je*i.size+news.length<=arr.size) (ty:TypeId) :
  (Builtin.append_ #[t,tx] ty #[.slice (some ⟨g,off,none⟩) je kb,x]).run P w = .ok (.slice (some ⟨g,off,none⟩) (je+n) kb) (w.setRow g (arr.toList.take (off+je*i.size)++news++arr.toList.drop (off+je*i.size+news.length)).toArray):=by
 have hst:=run_storeCells_at (P:=P) g (off+je*i.size) e' news 0 arr w hh (by omega) hs.one;simp only[Nat.add_zero]at hst;simp [Builtin.append_,run_underlying ht,run_underlying hx,sizeOf,typeInfo,hi,hs.len,ak,hs.cells,KJ,hst]
theorem Ge (t tx e ex:TypeId) (i:TypeInfo) (ht:P.underlying t=some (.slice e)) (hx:P.underlying tx=some (.slice ex)) (hi:P.info? e=some i) (ad:Option Addr) (kb:Nat) (x:Value) (w:World) (hs:Src P i.size tx x 0 [] w) (ty:TypeId) :
  (Builtin.append_ #[t,tx] ty #[.slice ad 0 kb,x]).run P w = .ok (.slice ad 0 kb) w:=by
 have hc:=hs.cells;cases ad<;>simp [Builtin.append_,run_underlying ht,run_underlying hx,sizeOf,typeInfo,hi,hs.len,hc,storeCells]
theorem YF {x y:Operand} {t tx:TypeId} (g6:o.op = .call ⟨.builtin .append,#[x,y],#[t,tx]⟩) {u:Value} {w w':World} (h:(Builtin.append_ #[t,tx] o.type #[a.eval x,a.eval y]).run P w = .ok u w'):(execOp a.eval o).run P w = .ok (.value u) w':=by
 simp [execOp,g6,resolve,invoke,builtin,h]
theorem Gi {x y:Operand} {t:TypeId} (g6:o.op = .call ⟨.builtin .copy,#[x,y],#[t,t]⟩) {u:Value} {w w':World} (h:(Builtin.copy_ #[t,t] o.type #[a.eval x,a.eval y]).run P w = .ok u w'):(execOp a.eval o).run P w = .ok (.value u) w':=by
 simp [execOp,g6,resolve,invoke,builtin,h]
theorem Ym (ah news:List Value) (z:Array Value) (k p:Nat) (h:p<ah.length+news.length):((ah++news).toArray++Builtin.zeroCells z k)[p]? = (ah++news)[p]? := by
 rw[Array.getElem?_append_left (by simpa using h)];simp
theorem Akn {a6 len:Nat} {xs ys:List (List AV)} {ah news:List Value} (hxl:xs.length=len) (hol:ah.length=len*a6) (hzx : ∀ e∈xs,e.length=a6)
  (hx : ∀ i cs,xs[i]? = some cs -> ∀ j c,cs[j]? = some c -> ∃ u,ah[i*a6+j]? = some u/\CC B S m c u)
  (hy : ∀ i cs,ys[i]? = some cs -> ∀ j c,cs[j]? = some c -> ∃ u,news[i*a6+j]? = some u/\CC B S m c u) :
  ∀ i cs,(xs++ys)[i]? = some cs -> ∀ j c,cs[j]? = some c -> ∃ u,(ah++news)[i*a6+j]? = some u/\CC B S m c u:=by
 intro i cs hi j c hj;by_cases hil:i<len
 ·rw[List.getElem?_append_left (by omega)]at hi
  obtain ⟨u,hu,hc⟩:=hx i cs hi j c hj;exact ⟨u,by rw[List.getElem?_append_left (by have:=(zS hu).1;omega)];exact hu,hc⟩
 ·rw[List.getElem?_append_right (by omega),hxl]at hi
  obtain ⟨u,hu,hc⟩:=hy (i-len) cs hi j c hj;refine ⟨u,?_,hc⟩;have e1:i*a6=len*a6+(i-len)*a6:=by rw[<-Nat.add_mul];congr 1;omega
  rw[List.getElem?_append_right (by omega),<-hu];congr 1;omega
theorem Cp {s z n cap:Nat} {es:List (List AV)} {w':World} {g t:Nat} {arr:Array Value} {e:TypeId} (hz:0<z) (hn:n<=cap) (hg:w'.heap[g]? = some (.cells arr e (0,0))) (hc:cap*z<=arr.size) :
  CV B S ⟨e6 m s (some g),m.own.put s (((m.own s).n7 t none).new ⟨z,es⟩),w'⟩ (.row s (m.own.e5 s) z 0 n) (.slice (some ⟨g,0,none⟩) n cap):=by
 refine .ca (.one (.row s (m.own.e5 s) z 0 n _ cap ?_ hz hn (λ_=>rfl) λ b' g7=>⟨?_,.inr ⟨g,arr,e,?_,by simp,hg,by simpa using hc⟩⟩))
 ·show _<BT.e5 _ s
  rw[fX];simp
 ·change BT.get _ s _=some b' at g7
  rw[XQ,if_pos ⟨rfl,rfl⟩]at g7;obtain rfl:(⟨z,es⟩:GH)=b':=by simpa using g7
  rfl
 ·simp [e6]
theorem Ow (hm:DJ B S w0 m) (ob:Obj):Below B w0 (m.w.drew.alloc ob):=hm.below.drew.alloc (by simpa using hm.size) ob
theorem vU (hm:DJ B S w0 m) (hs:EI B S m ρ a.eval) {s a6 bytes:Nat} {x' y':B8} (h:CT P num o.op (.app s a6 bytes x' y')=true) {ys:List (List AV)} (hy:G5 m.own (ρ y')=some ys) (hz : ∀ e∈ys,e.length=a6) {s' t len:Nat} {b:GH} (hx:ρ x' = .row s' t a6 0 len) (l7:m.own.get s' t=some b)
  (dj:b.a6=a6) (hle:len<=b.es.length) (ak:(len+ys.length)*bytes<=F3) (qf:len+ys.length<=9223372036854775807) :
  EO B S w0 P o a m (.af (.row s' (m.own.e5 s') a6 0 (len+ys.length)) (m.own.put s' (((m.own s').n7 t none).new ⟨a6,b.es.take len++ys⟩))):=by
 obtain ⟨x,y,ty,e,i,z,tx,ex,g6,h1,h2,hu,hi,o7,iw,y8,aw,hne,mw⟩:=zZ h;have h0:0<a6:=Nat.pos_of_ne_zero hne;obtain ⟨ad,cap,u5,ht,_,gf,ha,hb⟩:=XD (hx ▸ hs x x' h1);obtain ⟨fp,w3,news,ja,w5⟩:=bY hm (hs y y' h2) hy hz h0;have gi:Src P i.size tx (.slice fp ys.length w3) ys.length news m.w:=by rw[o7];exact w5.src h0 hz mw w3
 obtain ⟨hbb,hmat⟩:=hm.blk s' t b l7;obtain ⟨_,hor⟩:=hb b l7;have htl:(b.es.take len).length=len:=by simp;omega
 have pt : ∀ q∈b.es.take len++ys,q.length=a6:=λ q hq=>by
  rcases List.mem_append.1 hq with hq|hq
  ·rw[<-dj];exact hbb q (List.mem_of_mem_take hq)
  ·exact hz q hq
 intro K Q hK;by_cases lf:len+ys.length<=cap
 ·rcases hor with ⟨hl0,hc0⟩|⟨g,arr,e',hg,ea,hh,uw⟩
  ·have jy:ys=[]:=List.eq_nil_of_length_eq_zero (by omega)
   subst jy;subst hl0 hc0;have pd:news=[]:=List.eq_nil_of_length_eq_zero (by simpa using w5.len);subst pd;have m7:=Ge ty tx e ex i hu mw hi ad 0 (.slice fp 0 w3) m.w (by simpa using gi) o.type;obtain ⟨k1,k2⟩:=oN hm s' t b ⟨a6,b.es.take 0++[]⟩ l7 none m.w hm.below (Nat.le_refl _) (λ_ _ _=>rfl) (by simp) (by simp) (by simp);refine NM (YF g6 (by rw[u5,ja];simpa using m7)) (hK _ ⟨e6 m s' none,m.own.put s' (((m.own s').n7 t none).new ⟨a6,b.es.take 0++[]⟩),m.w⟩ rfl k1 k2 (.ca (.one (.row s' (m.own.e5 s') a6 0 0 ad 0 ?_ h0 (Nat.le_refl _) (λ h=>by omega) λ b' g7=>⟨?_,.inl ⟨rfl,rfl⟩⟩))))
   ·show _<BT.e5 _ s'
    rw[fX];simp
   ·change BT.get _ s' _=some b' at g7
    rw[XQ,if_pos ⟨rfl,rfl⟩]at g7;obtain rfl:(⟨a6,b.es.take 0++[]⟩:GH)=b':=by simpa using g7
    rfl
  ·have ql:ad=some ⟨g,0,none⟩:=by simpa using ea
   rw[hg]at hmat;obtain ⟨hB,im,e2,lj,hcc⟩:=hmat;rw[hh]at lj;obtain ⟨rfl,rfl⟩:arr=im/\e'=e2:=by simpa using lj
   have mv:news.length=ys.length*a6:=w5.len;have hbound:len*a6+news.length<=arr.size:=by
    have:(len+ys.length)*a6<=(0+cap)*a6:=Nat.mul_le_mul_right _ (by omega)
    rw[Nat.add_mul]at this;omega
   have m7:=Aks ty tx e ex i hu mw hi g 0 len cap (.slice fp ys.length w3) ys.length news m.w gi lf arr e' hh (by rw[o7];omega) o.type;rw[o7,Nat.zero_add]at m7;generalize ct:(arr.toList.take (len*a6)++news++arr.toList.drop (len*a6+news.length)).toArray=n9 at m7;have ae : ∀ p,n9[p]? = if p<len*a6 then arr[p]? else if p<len*a6+news.length then news[p-len*a6]? else arr[p]? := λ p=>by rw[<-ct];exact Dd arr (len*a6) news hbound p
   have dv:n9.size=arr.size:=by rw[<-ct];simp;omega
   obtain ⟨k1,k2⟩:=oN hm s' t b ⟨a6,b.es.take len++ys⟩ l7 (some g) (m.w.setRow g n9) (kS hm hB n9) (by simp) (λ k _ lz=>setRow_other _ _ _ _ (λ e=>lz (e ▸ hg))) pt (by simp) (λ g' fb=>by
    obtain rfl:g=g':=by simpa using fb
    refine ⟨hB,.inr hg,n9,e',setRow_heap _ _ _ _ _ _ hh,λ i' cs m5 j c hj => ?_⟩;show ∃ u,n9[i'*a6+j]? = some u/\_;by_cases hil:i'<len
    ·rw[List.getElem?_append_left (by omega),List.getElem?_take,if_pos hil]at m5
     have hjl:j<a6:=by rw[<-dj,<-hbb cs (zM m5)];exact (zS hj).1
     obtain ⟨u,bf,z0⟩:=hcc i' cs m5 j c hj;refine ⟨u,?_,z0⟩;have:(i'+1)*a6<=len*a6:=Nat.mul_le_mul_right _ hil
     rw[Nat.succ_mul]at this;rw[ae,if_pos (by omega),<-bf,dj]
    ·rw[List.getElem?_append_right (by omega),htl]at m5
     obtain ⟨u,bf,z0⟩:=w5.rel (i'-len) cs m5 j c hj;refine ⟨u,?_,z0⟩;have hul:=(zS bf).1;have e1:i'*a6=len*a6+(i'-len)*a6:=by rw[<-Nat.add_mul];congr 1;omega
     rw[ae,if_neg (by omega),if_pos (by omega),<-bf];congr 1;omega)
   exact NM (YF g6 (by rw[u5,ja,ql];exact m7)) (hK _ ⟨e6 m s' (some g),m.own.put s' (((m.own s').n7 t none).new ⟨a6,b.es.take len++ys⟩),m.w.setRow g n9⟩ rfl k1 k2 (Cp h0 lf (setRow_heap _ _ _ _ _ _ hh) (by rw[dv];simpa using uw)))
 ·have oz:cap<len+ys.length:=by omega
  obtain ⟨ah,hol,hold,Az⟩ : ∃ ah:List Value,ah.length=len*a6/\(Builtin.firstCells i.size len (.slice ad len cap)).run P m.w.drew = .ok ah.toArray m.w.drew/\(∀ i' cs,(b.es.take len)[i']? = some cs -> ∀ j c,cs[j]? = some c -> ∃ u,ah[i'*a6+j]? = some u/\CC B S m c u):=by
   rcases hor with ⟨hl0,hc0⟩|⟨g,arr,e',hg,ea,hh,uw⟩
   ·subst hl0
    refine ⟨[],by simp,?_,λ i' cs m5=>by simp at m5⟩;cases ad with
    | none=>exact run_firstCells_none m.w.drew i.size 0 0 cap
    | some sj=>exact run_firstCells_some m.w.drew i.size 0 sj 0 cap [] (by simp) (λ j v hv=>by simp at hv)
   ·have ql:ad=some ⟨g,0,none⟩:=by simpa using ea
    rw[hg]at hmat;obtain ⟨hB,im,e2,lj,hcc⟩:=hmat;rw[hh]at lj;obtain ⟨rfl,rfl⟩:arr=im/\e'=e2:=by simpa using lj
    have hcl:len*a6<=arr.size:=by
     have:len*a6<=(0+cap)*a6:=Nat.mul_le_mul_right _ (by omega)
     omega
    refine ⟨arr.toList.take (len*a6),by simp;omega,?_,λ i' cs m5 j c hj => ?_⟩
    ·rw[ql]
     refine run_firstCells_some m.w.drew i.size len ⟨g,0,none⟩ len cap _ (by rw[o7];simp;omega) (λ j v hv => ?_);rw[List.getElem?_take]at hv;split at hv
     ·rw[KJ,fP (w:=m.w.drew) (show m.w.heap[g]? = _ from hh)]
      simpa using hv
     ·cases hv
    ·rw[List.getElem?_take]at m5
     split at m5
     ·rename_i hil
      have hjl:j<a6:=by rw[<-dj,<-hbb cs (zM m5)];exact (zS hj).1
      obtain ⟨u,bf,z0⟩:=hcc i' cs m5 j c hj;refine ⟨u,?_,z0⟩;have:(i'+1)*a6<=len*a6:=Nat.mul_le_mul_right _ hil
      rw[Nat.succ_mul]at this;rw[List.getElem?_take,if_pos (by omega),<-bf,dj];simp
     ·cases m5
  have m7:=run_append_grow_src (P:=P) m.w ty tx o.type e i z hu hi y8 ad len cap ah hold (.slice fp ys.length w3) ys.length news gi oz (by omega) (growslice_fits oz (by rw[iw];exact ak));have mv:news.length=ys.length*a6:=w5.len;have u4:len+ys.length<=grownCap m.w (len+ys.length) cap e:=grownCap_ge _ _ _ _;generalize ta:grownCap m.w (len+ys.length) cap e=gc at m7 u4;have di:=Ow hm (.cells ((ah++news).toArray++Builtin.zeroCells z.cells (gc-(len+ys.length))) e);have fg:(m.w.drew.alloc (.cells ((ah++news).toArray++Builtin.zeroCells z.cells (gc-(len+ys.length))) e)).heap[m.w.heap.size]? = some (.cells ((ah++news).toArray++Builtin.zeroCells z.cells (gc-(len+ys.length))) e (0,0)):=heap_alloc_new m.w.drew _;obtain ⟨k1,k2⟩:=oN hm s' t b ⟨a6,b.es.take len++ys⟩ l7 (some m.w.heap.size) _ di (by simp) (λ k hk _=>Below.heap_alloc m.w.drew _ k hk) pt (by simp) (λ g' fb=>by
   obtain rfl:m.w.heap.size=g':=by simpa using fb
   refine ⟨hm.size,.inl (Nat.le_refl _),_,e,fg,λ i' cs m5 j c hj => ?_⟩;obtain ⟨u,bf,z0⟩:=Akn htl hol (λ q hq=>by rw[<-dj];exact hbb q (List.mem_of_mem_take hq)) Az w5.rel i' cs m5 j c hj;refine ⟨u,?_,z0⟩;rw[Ym _ _ _ _ _ (by have:=(zS bf).1;simpa using this)];exact bf)
  refine NM (YF g6 (by rw[u5,ja];exact m7)) (hK _ ⟨e6 m s' (some m.w.heap.size),m.own.put s' (((m.own s').n7 t none).new ⟨a6,b.es.take len++ys⟩),_⟩ rfl k1 k2 (Cp h0 u4 fg ?_));have my:(Builtin.zeroCells z.cells (gc-(len+ys.length))).size=(gc-(len+ys.length))*a6:=by simp [Builtin.zeroCells,aw]
  rw[Array.size_append,my];simp only[List.size_toArray,List.length_append,hol,mv];rw[<-Nat.add_mul,<-Nat.add_mul];exact Nat.mul_le_mul_right _ (by omega)
theorem Qy (hm:DJ B S w0 m) (hs:EI B S m ρ a.eval) {s a6 bytes:Nat} {x' y':B8} (h:CT P num o.op (.app s a6 bytes x' y')=true) {ys:List (List AV)} (hy:G5 m.own (ρ y')=some ys) (hz : ∀ e∈ys,e.length=a6) (hx:ρ x' = .nil)
  (ak:ys.length*bytes<=F3) (qf:ys.length<=9223372036854775807) :
  EO B S w0 P o a m (.af (.row s (m.own.e5 s) a6 0 ys.length) (m.own.put s ((m.own s).new ⟨a6,ys⟩))):=by
 obtain ⟨x,y,ty,e,i,z,tx,ex,g6,h1,h2,hu,hi,o7,iw,y8,aw,hne,mw⟩:=zZ h;have h0:0<a6:=Nat.pos_of_ne_zero hne;have u5:=UU (hx ▸ hs x x' h1);obtain ⟨fp,w3,news,ja,w5⟩:=bY hm (hs y y' h2) hy hz h0;have gi:Src P i.size tx (.slice fp ys.length w3) ys.length news m.w:=by rw[o7];exact w5.src h0 hz mw w3
 intro K Q hK;by_cases jy:ys=[]
 ·subst jy
  have pd:news=[]:=List.eq_nil_of_length_eq_zero (by simpa using w5.len);subst pd;have m7:=Ge ty tx e ex i hu mw hi none 0 (.slice fp 0 w3) m.w (by simpa using gi) o.type;obtain ⟨k1,k2⟩:=Ha hm s a6;refine NM (YF g6 (by rw[u5,ja];simpa using m7)) (hK _ ⟨e6 m s none,m.own.put s ((m.own s).new ⟨a6,[]⟩),m.w⟩ rfl k1 k2 (.ca (.one (.row s (m.own.e5 s) a6 0 0 none 0 ?_ h0 (Nat.le_refl _) (λ h=>by omega) λ b' g7=>⟨?_,.inl ⟨rfl,rfl⟩⟩))))
  ·show _<BT.e5 _ s
   rw[OV];simp
  ·change BT.get _ s _=some b' at g7
   rw[JA,if_pos ⟨rfl,rfl⟩]at g7;obtain rfl:(⟨a6,[]⟩:GH)=b':=by simpa using g7
   rfl
 ·have vo:0<ys.length:=List.length_pos_iff.2 jy
  have m7:=run_append_grow_src (P:=P) m.w ty tx o.type e i z hu hi y8 none 0 0 [] (run_firstCells_none m.w.drew i.size 0 0 0) (.slice fp ys.length w3) ys.length news gi (by omega) (by omega) (growslice_fits (by omega) (by rw[iw,Nat.zero_add];exact ak));simp only[Nat.zero_add,List.nil_append]at m7;have mv:news.length=ys.length*a6:=w5.len;have u4:ys.length<=grownCap m.w ys.length 0 e:=grownCap_ge _ _ _ _;generalize ta:grownCap m.w ys.length 0 e=gc at m7 u4;have hd:Below m.w.heap.size m.w m.w.drew:=(Below.refl _ _).drew;obtain ⟨dm,he1⟩:=grow hm hd;obtain ⟨k1,k2⟩:=aV dm s ⟨a6,ys⟩ (news.toArray++Builtin.zeroCells z.cells (gc-ys.length)) e hz (λ i' cs m5 j c hj=>by
   obtain ⟨u,bf,z0⟩:=w5.rel i' cs m5 j c hj;refine ⟨u,?_,he1.cc z0⟩;have hul:=(zS bf).1;show (news.toArray++Builtin.zeroCells z.cells (gc-ys.length))[i'*a6+j]? = some u;rw[Array.getElem?_append_left (by simpa using hul)];simpa using bf)
  have my:(Builtin.zeroCells z.cells (gc-ys.length)).size=(gc-ys.length)*a6:=by simp [Builtin.zeroCells,aw]
  refine NM (YF g6 (by rw[u5,ja];exact m7)) (hK _ ⟨e6 ⟨m.ν,m.own,m.w.drew⟩ s (some m.w.drew.heap.size),m.own.put s ((m.own s).new ⟨a6,ys⟩),_⟩ rfl k1 (he1.trans k2) (iL (m:=⟨m.ν,m.own,m.w.drew⟩) h0 u4 (heap_alloc_new m.w.drew _) ?_));rw[Array.size_append,my];simp only[List.size_toArray,mv];rw[<-Nat.add_mul];exact Nat.mul_le_mul_right _ (by omega)
theorem Qx (hm:DJ B S w0 m) (hs:EI B S m ρ a.eval) {s a6 bytes:Nat} {x' y':B8} (h:CT P num o.op (.il s a6 bytes x' y')=true) {ys:List (List AV)} (hy:G5 m.own (ρ y')=some ys) (hz : ∀ e∈ys,e.length=a6) (hx:ρ x' = .nil)
  (vo:0<ys.length) (ak:ys.length*bytes<=F3) (qf:ys.length<=9223372036854775807) :
  EO B S w0 P o a m (.new s ⟨a6,ys⟩ (λ t => .row s t a6 0 ys.length)):=by
 obtain ⟨x,y,ty,e,i,z,tx,ex,g6,h1,h2,hu,hi,o7,iw,y8,aw,hne,mw⟩:=Ya h;have h0:0<a6:=Nat.pos_of_ne_zero hne;have u5:=UU (hx ▸ hs x x' h1);obtain ⟨fp,w3,news,ja,w5⟩:=bY hm (hs y y' h2) hy hz h0;have gi:Src P i.size tx (.slice fp ys.length w3) ys.length news m.w:=by rw[o7];exact w5.src h0 hz mw w3
 intro K Q hK;have m7:=run_append_grow_src (P:=P) m.w ty tx o.type e i z hu hi y8 none 0 0 [] (run_firstCells_none m.w.drew i.size 0 0 0) (.slice fp ys.length w3) ys.length news gi (by omega) (by omega) (growslice_fits (by omega) (by rw[iw,Nat.zero_add];exact ak));simp only[Nat.zero_add,List.nil_append]at m7;have mv:news.length=ys.length*a6:=w5.len;have u4:ys.length<=grownCap m.w ys.length 0 e:=grownCap_ge _ _ _ _;generalize ta:grownCap m.w ys.length 0 e=gc at m7 u4;have hd:Below m.w.heap.size m.w m.w.drew:=(Below.refl _ _).drew;obtain ⟨dm,he1⟩:=grow hm hd;obtain ⟨k1,k2⟩:=aV dm s ⟨a6,ys⟩ (news.toArray++Builtin.zeroCells z.cells (gc-ys.length)) e hz (λ i' cs m5 j c hj=>by
  obtain ⟨u,bf,z0⟩:=w5.rel i' cs m5 j c hj;refine ⟨u,?_,he1.cc z0⟩;have hul:=(zS bf).1;show (news.toArray++Builtin.zeroCells z.cells (gc-ys.length))[i'*a6+j]? = some u;rw[Array.getElem?_append_left (by simpa using hul)];simpa using bf)
 have my:(Builtin.zeroCells z.cells (gc-ys.length)).size=(gc-ys.length)*a6:=by simp [Builtin.zeroCells,aw]
 refine NM (YF g6 (by rw[u5,ja];exact m7)) (hK _ ⟨e6 ⟨m.ν,m.own,m.w.drew⟩ s (some m.w.drew.heap.size),m.own.put s ((m.own s).new ⟨a6,ys⟩),_⟩ rfl k1 (he1.trans k2) (iL (m:=⟨m.ν,m.own,m.w.drew⟩) h0 u4 (heap_alloc_new m.w.drew _) ?_));rw[Array.size_append,my];simp only[List.size_toArray,mv];rw[<-Nat.add_mul];exact Nat.mul_le_mul_right _ (by omega)
theorem Akt (w:World) (t tx ty e:TypeId) (i:TypeInfo) (z:Value) (ht:P.underlying t=some (.slice e)) {k:IntKind} (hk:P.underlying tx=some (.int k)) (hi:P.info? e=some i) (hz:i.zero=some z) (k':IntKind) (n:Nat)
  (hn:0<n) (qf:(n:Int)<=9223372036854775807) (Il:n*i.bytes<=F3) (hne:i.size≠0) :
  (Builtin.append_ #[t,tx] ty #[.slice none 0 0,.int k' n]).run P w =
   .ok (.slice (some ⟨w.heap.size,0,none⟩) n (grownCap w n 0 e))
    (w.drew.alloc (.cells (Builtin.zeroCells z.cells n++Builtin.zeroCells z.cells (grownCap w n 0 e-n)) e)):=by
 have lf:=growslice_fits (old:=0) (need:=n) (bytes:=i.bytes) hn Il;have h1 : ¬ (n:Int)<0:=by omega
 have h2 : ¬ n=0:=by omega
 have h3 : ¬ (9223372036854775807<(n:Int)):=by omega
 have h5 : ¬ (281474976710656<Builtin.nextslicecap n 0*i.bytes):=by omega
 have h6 : ¬ ((281474976710656:Int)<(n:Int)*(i.bytes:Int)):=by
  have zj:n*i.bytes<=140737488355328:=Il;have h7:=Int.ofNat_le.2 zj;rw[Int.natCast_mul]at h7;omega
 have hA : ∀ w':World,(asIntOf (.int k' n)).run P w' = .ok (k',(n:Int)) w':=λ w'=>rfl
 have e1:IntKind.i64.wrap (n:Int)=n:=by rw[IntKind.wrap_i64];omega
 generalize hw:IntKind.i64.wrap (n:Int)=q at e1;subst e1;simp [Builtin.append_,run_underlying ht,run_underlying hk,sizeOf,typeInfo,zeroValue,hi,hz,asInt,hA,hw,h1,h2,h3,h5,h6,hne,Question.forced,Builtin.firstCells,newRow,grownCap];intro h;rcases Nat.mul_eq_zero.1 h with h|h
 ·exact absurd h h2
 ·exact absurd h hne
theorem Qz (hm:DJ B S w0 m) (hs:EI B S m ρ a.eval) {s a6 bytes:Nat} {x' y':B8} (h:CT P num o.op (.gv s a6 bytes x' y')=true) (hx:ρ x' = .nil) {k':IntKind} {n:Int} (hy:ρ y' = .int k' n)
  (hn:0<n) (ak:n*bytes<=F3) (qf:n<=9223372036854775807) :
  EO B S w0 P o a m (.new s ⟨a6,[]⟩ (λ t => .row s t a6 0 n.toNat)):=by
 obtain ⟨x,y,ty,e,i,z,tx,k,g6,h1,h2,hu,hi,o7,iw,y8,aw,hne,mw⟩:=Yc h;have h0:0<a6:=Nat.pos_of_ne_zero hne;have u5:=UU (hx ▸ hs x x' h1);have hey:=J4 (hy ▸ hs y y' h2);obtain ⟨q,rfl⟩ : ∃ q:Nat,n=q:=⟨n.toNat,by omega⟩;simp only[Int.toNat_natCast];intro K Q hK;have m7:=Akt (P:=P) m.w ty tx o.type e i z hu mw hi y8 k' q (by omega) qf (by
  rw[iw];rw[<-Int.natCast_mul]at ak;exact Int.ofNat_le.1 ak) (by rw[o7];exact hne)
 have u4:q<=grownCap m.w q 0 e:=grownCap_ge _ _ _ _;generalize ta:grownCap m.w q 0 e=gc at m7 u4;have hd:Below m.w.heap.size m.w m.w.drew:=(Below.refl _ _).drew;obtain ⟨dm,he1⟩:=grow hm hd;obtain ⟨k1,k2⟩:=aV dm s ⟨a6,[]⟩ (Builtin.zeroCells z.cells q++Builtin.zeroCells z.cells (gc-q)) e (by simp) (λ i' cs m5 j c hj=>by simp at m5);have my : ∀ n,(Builtin.zeroCells z.cells n).size=n*a6:=λ n=>by simp [Builtin.zeroCells,aw]
 refine NM (YF g6 (by rw[u5,hey];exact m7)) (hK _ ⟨e6 ⟨m.ν,m.own,m.w.drew⟩ s (some m.w.drew.heap.size),m.own.put s ((m.own s).new ⟨a6,[]⟩),_⟩ rfl k1 (he1.trans k2) (iL (m:=⟨m.ν,m.own,m.w.drew⟩) h0 u4 (heap_alloc_new m.w.drew _) ?_));rw[Array.size_append,my,my,<-Nat.add_mul];exact Nat.mul_le_mul_right _ (by omega)
end
end Go.Eng

namespace Go.Eng
open Go.RowKit
section
variable {B:Nat} {S:Nat->Prop} {w0:World} {m:M}
variable {P:Program} {num:Nat->Nat} {o:Oper} {a:Act} {ρ:B8->AV}
theorem Alo (ow:BT) (s t:Nat) (b:GH) (h:ow.get s t=some b):ow.put s ((ow s).n7 t (some b))=ow:=by
 funext s'
 unfold BT.put D9.n7;by_cases hs:s'=s
 ·subst hs
  rw[if_pos rfl];unfold BT.get at h;cases hx:ow s' with
  | mk c f =>
   rw[hx]at h;simp only at h;congr;funext t'
   by_cases ht:t'=t
   ·subst ht;simp [h]
   ·simp [ht]
 ·simp [hs]
theorem Gf (ty e:TypeId) (i:TypeInfo) (hu:P.underlying ty=some (.slice e)) (hi:P.info? e=some i) (ad:Option Addr) (qb zi:Nat) (fp:Option Addr) (yl yc:Nat) (cs:List Value) (w w':World) (rt:TypeId)
  (hf:(Builtin.firstCells i.size (Nat.min yl qb) (.slice fp yl yc)).run P w = .ok cs.toArray w) (hst : ∀ b,ad=some b->(storeCells b cs).run P w = .ok () w') (hn:ad=none->w'=w) :
  (Builtin.copy_ #[ty,ty] rt #[.slice ad qb zi,.slice fp yl yc]).run P w = .ok (goInt (Nat.min yl qb)) w':=by
 cases ad with
 | none=>rw[hn rfl];simp [Builtin.copy_,run_underlying hu,sizeOf,typeInfo,hi,Builtin.lenOf,hf]
 | some b=>simp [Builtin.copy_,run_underlying hu,sizeOf,typeInfo,hi,Builtin.lenOf,hf,hst b rfl]
theorem Qc (hm:DJ B S w0 m) (hs:EI B S m ρ a.eval) {a6:Nat} {x' y':B8} (h:CT P num o.op (.iq a6 x' y')=true) {ys:List (List AV)} (hy:G5 m.own (ρ y')=some ys) (hz : ∀ e∈ys,e.length=a6) {s t off len:Nat} {b:GH} (hx:ρ x' = .row s t a6 off len) (l7:m.own.get s t=some b)
  (dj:b.a6=a6) (hle:off+len<=b.es.length) :
  EO B S w0 P o a m (.af (.int .i64 (min ys.length len:Nat)) (m.own.put s ((m.own s).n7 t (some ⟨a6,b.es.take off++ys.take len++b.es.drop (off+min ys.length len)⟩)))):=by
 obtain ⟨x,y,ty,e,i,g6,h1,h2,hu,hi,o7,hne⟩:=Xd h;have h0:0<a6:=Nat.pos_of_ne_zero hne;obtain ⟨ad,cap,u5,ht,_,gf,ha,hb⟩:=XD (hx ▸ hs x x' h1);obtain ⟨fp,w3,news,ja,w5⟩:=bY hm (hs y y' h2) hy hz h0;obtain ⟨hbb,hmat⟩:=hm.blk s t b l7;obtain ⟨_,hor⟩:=hb b l7;have mv:news.length=ys.length*a6:=w5.len;have Aod:min ys.length len*a6<=news.length:=by rw[mv];exact Nat.mul_le_mul_right _ (Nat.min_le_left _ _)
 have kx:(news.take (min ys.length len*a6)).length=min ys.length len*a6:=by simp;omega
 have hf:(Builtin.firstCells i.size (Nat.min ys.length len) (.slice fp ys.length w3)).run P m.w = .ok (news.take (min ys.length len*a6)).toArray m.w:=by
  cases wu:fp with
  | none =>
   have jy:ys=[]:=by
    cases ys with
    | nil=>rfl
    | cons q r=>exact absurd (w5.some_ (by simp)) (by simp [wu])
   subst jy;simp only[List.length_nil,Nat.zero_min,Nat.zero_mul,List.take_zero];have:=run_firstCells_none (P:=P) m.w i.size 0 0 w3
   simpa using this
  | some yb =>
   refine run_firstCells_some m.w i.size _ yb ys.length w3 _ (by rw[kx,o7]) (λ j v hv => ?_);rw[List.getElem?_take]at hv;split at hv
   ·exact w5.cells yb wu j v hv
   ·cases hv
 intro K Q hK;by_cases hk:min ys.length len=0
 ·have hc0:news.take (min ys.length len*a6)=[]:=by rw[hk];simp
  have e8:m.own.put s ((m.own s).n7 t (some ⟨a6,b.es.take off++ys.take len++b.es.drop (off+min ys.length len)⟩))=m.own:=by
   have mh:ys.take len=[]:=by
    apply List.eq_nil_of_length_eq_zero;rw[List.length_take];omega
   rw[hk,mh];have:b=⟨a6,b.es.take off++[]++b.es.drop (off+0)⟩:=by
    cases b with
    | mk z es=>simp at dj;subst dj;simp
   rw[<-this];exact Alo _ _ _ _ l7
  have m7:=Gf ty e i hu hi ad len cap fp ys.length w3 _ m.w m.w o.type hf (λ b' _=>by rw[hc0];rfl) (λ_=>rfl);refine NM (Gi g6 (by rw[u5,ja];exact m7)) (hK _ m e8.symm hm (FX.refl m) (PL _ _))
 ·rcases hor with ⟨hl0,hc0⟩|⟨g,arr,e',hg,ea,hh,uw⟩
  ·omega
  ·rw[hg]at hmat
   obtain ⟨hB,im,e2,lj,hcc⟩:=hmat;rw[hh]at lj;obtain ⟨rfl,rfl⟩:arr=im/\e'=e2:=by simpa using lj
   have hbound:off*a6+(news.take (min ys.length len*a6)).length<=arr.size:=by
    rw[kx,<-Nat.add_mul];exact Nat.le_trans (Nat.mul_le_mul_right _ (by omega)) uw
   have cj : ∀ u∈news.take (min ys.length len*a6),u.oneCell'=true:=λ u bf=>w5.one h0 hz u (List.mem_of_mem_take bf)
   have hst:=run_storeCells_at (P:=P) g (off*a6) e' (news.take (min ys.length len*a6)) 0 arr m.w hh (by omega) cj;simp only[Nat.add_zero]at hst;generalize ct:(arr.toList.take (off*a6)++news.take (min ys.length len*a6)++arr.toList.drop (off*a6+(news.take (min ys.length len*a6)).length)).toArray=n9 at hst;have ae : ∀ p,n9[p]? = if p<off*a6 then arr[p]? else if p<off*a6+min ys.length len*a6 then (news.take (min ys.length len*a6))[p-off*a6]? else arr[p]? := λ p=>by
    rw[<-ct,Dd arr (off*a6) _ hbound p,kx]
   have dv:n9.size=arr.size:=by rw[<-ct];simp;omega
   obtain ⟨k1,k2⟩:=Gw hm s t b ⟨a6,b.es.take off++ys.take len++b.es.drop (off+min ys.length len)⟩ l7 g hg arr n9 e' hh dj.symm (λ q hq=>by
     rcases List.mem_append.1 hq with hq|hq
     ·rcases List.mem_append.1 hq with hq|hq
      ·rw[<-dj];exact hbb q (List.mem_of_mem_take hq)
      ·exact hz q (List.mem_of_mem_take hq)
     ·rw[<-dj];exact hbb q (List.mem_of_mem_drop hq)) dv
    (λ i' cs m5 j c hj=>by
     show ∃ u,n9[i'*a6+j]? = some u/\_;have hyl:(ys.take len).length=min ys.length len:=by simp;omega
     change (b.es.take off++ys.take len++b.es.drop (off+min ys.length len))[i']? = some cs at m5;have Br:=hyl;rw[<-Br,jN _ _ _ (by rw[hyl];omega),hyl]at m5;by_cases td:i'<off
     ·rw[if_pos td]at m5
      have hjl:j<a6:=by rw[<-dj,<-hbb cs (zM m5)];exact (zS hj).1
      obtain ⟨u,bf,z0⟩:=hcc i' cs m5 j c hj;have:(i'+1)*a6<=off*a6:=Nat.mul_le_mul_right _ td
      rw[Nat.succ_mul]at this;exact ⟨u,by rw[ae,if_pos (by omega),<-bf,dj],z0⟩
     ·rw[if_neg td]at m5
      have e1:i'*a6=off*a6+(i'-off)*a6:=by rw[<-Nat.add_mul];congr 1;omega
      by_cases hi2:i'<off+min ys.length len
      ·rw[if_pos hi2,List.getElem?_take,if_pos (by omega)]at m5
       have hjl:j<a6:=by rw[<-hz cs (zM m5)];exact (zS hj).1
       obtain ⟨u,bf,z0⟩:=w5.rel (i'-off) cs m5 j c hj;have h3:(i'-off+1)*a6<=min ys.length len*a6:=Nat.mul_le_mul_right _ (by omega);rw[Nat.succ_mul]at h3;refine ⟨u,?_,z0⟩;rw[ae,if_neg (by omega),if_pos (by omega),List.getElem?_take,if_pos (by omega),<-bf];congr 1;omega
      ·rw[if_neg hi2]at m5
       obtain ⟨u,bf,z0⟩:=hcc i' cs m5 j c hj;have h3:(off+min ys.length len)*a6<=i'*a6:=Nat.mul_le_mul_right _ (by omega);rw[Nat.add_mul]at h3;exact ⟨u,by rw[ae,if_neg (by omega),if_neg (by omega),<-bf,dj],z0⟩)
    (m.w.setRow g n9) (kS hm hB n9) (by simp) (λ k hk=>setRow_other _ _ _ _ hk) (setRow_heap _ _ _ _ _ _ hh)
   have m7:=Gf ty e i hu hi ad len cap fp ys.length w3 _ m.w (m.w.setRow g n9) o.type hf (λ b' g7=>by
    rw[ea]at g7;obtain rfl:(⟨g,off*a6,none⟩:Addr)=b':=by simpa using g7
    exact hst) (λ hn=>by rw[ea]at hn;cases hn)
   exact NM (Gi g6 (by rw[u5,ja];exact m7)) (hK _ ⟨m.ν,_,m.w.setRow g n9⟩ rfl k1 k2 (PL _ _))
structure KX (P:Program) (num:Nat->Nat) (C:Cl):Prop where
 ko : ∀ (f:Nat) (vs:List AV) (r:AV),C.pure f vs=some r -> ∀ (us:Array Value) (w:World),(callFunc (num f) us).run P w = .ok (.enter (num f) us) w
 iv : ∀ (f:Nat) (vs:List AV) (own:BT) (r:AV × BT),C.db f vs own=some r -> ∀ (us:Array Value) (w:World),(callFunc (num f) us).run P w = .ok (.enter (num f) us) w
 pure : ∀ (f:Nat) (vs:List AV) (r:AV),C.pure f vs=some r -> ∀ (S:Nat->Prop) (w:World) (us:List Value),vs.length=us.length->(∀ (j:Nat) (c:AV) (v:Value),vs[j]? = some c->us[j]? = some v->CA w.heap.size S ⟨λ_ _=>none,BT.emp,w⟩ c v) ->
  Calls P (num f) us.toArray w λ e w' => ∃ u,e = .returned u/\Below w.heap.size w w'/\CV w.heap.size S ⟨λ_ _=>none,BT.emp,w'⟩ r u/\CS r
 db : ∀ (f:Nat) (vs:List AV) (own:BT) (r:AV) (l8:BT),C.db f vs own=some (r,l8) -> ∀ (B:Nat) (S:Nat->Prop) (w0:World) (m:M) (us:List Value),m.own=own->DJ B S w0 m->vs.length=us.length->(∀ (j:Nat) (c:AV) (v:Value),vs[j]? = some c->us[j]? = some v->CV B S m c v) ->
  Calls P (num f) us.toArray m.w λ e w' => ∃ u m',e = .returned u/\m'.w=w'/\m'.own=l8/\DJ B S w0 m'/\FX B S m m'/\CV B S m' r u
 num:C.num=num
end
end Go.Eng

namespace Go.Eng
open Go.RowKit
theorem U6 {α β:Type} (f:α->Option β) : ∀ {l:List α} {l':List β},l.mapM f=some l'->l.length=l'.length /\ ∀ (i:Nat) (x:α),l[i]? = some x -> ∃ y,l'[i]? = some y/\f x=some y
 | [],l',h=>by
  simp at h;subst h;exact ⟨rfl,λ i x hx=>by simp at hx⟩
 | x::r,l',h=>by
  simp only[List.mapM_cons,Option.bind_eq_bind,Option.pure_def]at h;cases hx:f x with
  | none=>simp [hx]at h
  | some y =>
   cases hr:r.mapM f with
   | none=>simp [hx,hr]at h
   | some r' =>
    simp [hx,hr]at h;subst h;obtain ⟨h1,h2⟩:=U6 f hr;refine ⟨by simp [h1],λ i z hz => ?_⟩;cases i with
    | zero=>simp at hz;subst hz;exact ⟨y,rfl,hx⟩
    | succ i=>exact h2 i z (by simpa using hz)
section
variable {B:Nat} {S:Nat->Prop} {w0:World} {m:M}
variable {P:Program} {num:Nat->Nat} {o:Oper} {a:Act} {ρ:B8->AV}
theorem Hi (hm:DJ B S w0 m) (l0:Bool) (R:Bool->Nat->Prop) (hR : ∀ l b,b<m.w.heap.size->safe B S m l b->R l b) (hL : ∀ s t g,live m s t->m.ν s t=some g->R l0 g) :
  ∀ (d:Nat) (c c':AV) (v:Value),snap m.own l0 d c=some c'->CC B S m c v->Rd m.w R c' v:=by
 intro d;induction d with
 | zero =>
  intro c c' v h hc;cases hc with
  | rd hr =>
   have:c'=c:=by cases hr<;>simp [snap]at h<;>exact h.symm
   subst this;exact hr.mono hR (λ_ _ _ _=>rfl)
  | nil=>simp [snap]at h;subst h;exact .eo _ _ _
  | _=>simp [snap]at h
 | succ d ih =>
  intro c c' v h hc;cases hc with
  | rd hr =>
   have:c'=c:=by cases hr<;>simp [snap]at h<;>exact h.symm
   subst this;exact hr.mono hR (λ_ _ _ _=>rfl)
  | nil=>simp [snap]at h;subst h;exact .eo _ _ _
  | ptr=>simp [snap]at h
  | o6=>simp [snap]at h
  | row s t z off len ad cap ht y8 gf ha hb =>
   simp only[snap]at h;cases w5:G5 m.own (.row s t z off len) with
   | none=>simp [w5]at h
   | some es =>
    simp only[w5]at h;cases dk:es.mapM (λ cs:List AV=>cs.mapM (snap m.own l0 d)) with
    | none=>simp [dk]at h
    | some es' =>
     simp [dk]at h;subst h;have Bv:(∀ e∈es,e.length=z)/\es.length=len /\ ∃ b,m.own.get s t=some b:=by
      simp only[G5]at w5;cases l7:m.own.get s t with
      | none=>simp [l7]at w5
      | some b =>
       simp only[l7]at w5;split at w5
       ·rename_i hle
        obtain rfl:=Option.some.inj w5;refine ⟨λ e he => ?_,by simp;omega,b,rfl⟩;rw[<-hle.2];exact (hm.blk s t b l7).1 e (List.mem_of_mem_drop (List.mem_of_mem_take he))
       ·cases w5
     obtain ⟨hz,hlen,b,l7⟩:=Bv;have q5:CV B S m (.row s t z off len) (.slice ad len cap):= .ca (.one (.row s t z off len ad cap ht y8 gf ha hb));obtain ⟨ad2,zf,news,yk,hE⟩:=bY hm q5 w5 hz y8;obtain ⟨rfl,_,rfl⟩:ad=ad2/\len=es.length/\cap=zf:=by simpa using yk
     obtain ⟨hl1,lh⟩:=U6 _ dk;by_cases h0:es=[]
     ·subst h0
      have:es'=[]:=List.eq_nil_of_length_eq_zero (by rw[<-hl1];rfl)
      subst this;have:len=0:=by rw[<-hlen];rfl
      subst this;exact .eo _ _ _
     ·obtain ⟨_,hor⟩:=hb b l7
      rcases hor with ⟨Aof,_⟩|⟨g,arr,e',hg,ea,hh,uw⟩
      ·exact absurd (List.eq_nil_of_length_eq_zero (by omega)) h0
      ·rw[ea,<-hlen,hl1]
       refine .sl l0 es' g (off*z) z cap (λ i j=>news.getD (i*z+j) undef) (λ e=>h0 (List.eq_nil_of_length_eq_zero (by rw[hl1,e];rfl))) y8 (hL s t g ⟨b,l7⟩ hg) (by omega) (λ e' eb => ?_) (λ i e hi j c hj => ?_) (λ i e hi j c hj => ?_)
       ·obtain ⟨i,hi,rfl⟩:=List.getElem_of_mem eb
        have m5:i<es.length:=by omega
        obtain ⟨y,hy,cu⟩:=lh i es[i] (zE m5);have:es'[i]=y:=by
         have:=(zS hy).2;exact this
        rw[this,<-(U6 _ cu).1];exact hz _ (List.getElem_mem m5)
       ·have m5:i<es.length:=by rw[hl1];exact (zS hi).1
        obtain ⟨y,hy,cu⟩:=lh i es[i] (zE m5);rw[hi]at hy;obtain rfl:e=y:=by simpa using hy
        obtain ⟨hl2,_⟩:=U6 _ cu;have te:j<(es[i]).length:=by rw[hl2];exact (zS hj).1
        obtain ⟨u,hu,z0⟩:=hE.rel i es[i] (zE m5) j _ (zE te);have:=hE.cells _ ea (i*z+j) u hu
        rw[KJ]at this;simp only[List.getD,hu,Option.getD_some];exact this
       ·have m5:i<es.length:=by rw[hl1];exact (zS hi).1
        obtain ⟨y,hy,cu⟩:=lh i es[i] (zE m5);rw[hi]at hy;obtain rfl:e=y:=by simpa using hy
        obtain ⟨hl2,fb⟩:=U6 _ cu;have te:j<(es[i]).length:=by rw[hl2];exact (zS hj).1
        obtain ⟨u,hu,z0⟩:=hE.rel i es[i] (zE m5) j _ (zE te);obtain ⟨c2,hc2,ma⟩:=fb j _ (zE te);rw[hj]at hc2;obtain rfl:c=c2:=by simpa using hc2
        simp only[List.getD,hu,Option.getD_some];exact ih _ _ _ ma z0
def DA (w:World) (R:Bool->Nat->Prop) (c:AV) (v:Value):Prop :=
 Rd w R c v \/ ∃ (cs:List AV) (vs:List Value),c = .agg cs/\v = .agg vs.toArray/\cs.length=vs.length /\ ∀ (j:Nat) (x:AV) (u:Value),cs[j]? = some x->vs[j]? = some u->Rd w R x u
theorem jL (hm:DJ B S w0 m) (l0:Bool) (R:Bool->Nat->Prop) (hR : ∀ l b,b<m.w.heap.size->safe B S m l b->R l b) (hL : ∀ s t g,live m s t->m.ν s t=some g->R l0 g)
  {c c':AV} {v:Value} (h:F6 m.own l0 c=some c') (hc:CV B S m c v):DA m.w R c' v:=by
 cases hc with
 | any v=>simp [F6,snap]at h
 | tup=>simp [F6,snap]at h
 | ca hc=>cases hc with
  | one hc =>
   have h':snap m.own l0 6 c=some c':=by
    cases hc with
    | rd hr=>cases hr<;>simpa [F6] using h
    | _=>simpa [F6] using h
   exact Or.inl (Hi hm l0 R hR hL 6 c c' v h' hc)
  | fn=>simp [F6,snap]at h
  | agg cs vs hcl =>
   simp only[F6]at h;cases hcs:cs.mapM (snap m.own l0 6) with
   | none=>simp [hcs]at h
   | some az =>
    simp [hcs]at h;subst h;obtain ⟨h1,h2⟩:=U6 _ hcs;refine Or.inr ⟨az,vs,rfl,rfl,h1.symm.trans hcl.1,λ j x u hx hu => ?_⟩;have hj:j<cs.length:=by rw[h1];exact (zS hx).1
    obtain ⟨y,hy,cu⟩:=h2 j cs[j] (zE hj);rw[hx]at hy;obtain rfl:x=y:=by simpa using hy
    exact Hi hm l0 R hR hL 6 _ _ _ cu (hcl.2 j cs[j] u (zE hj) hu)
def DV (w:World) (R:Bool->Nat->Prop) (c:AV) (v:Value):Prop :=
 DA w R c v \/ ∃ (cs:List AV) (vs:List Value),c = .tup cs/\v = .tuple vs.toArray/\cs.length=vs.length /\ ∀ (j:Nat) (x:AV) (u:Value),cs[j]? = some x->vs[j]? = some u->DA w R x u
theorem AkR (hm:DJ B S w0 m) (l0:Bool) (R:Bool->Nat->Prop) (hR : ∀ l b,b<m.w.heap.size->safe B S m l b->R l b) (hL : ∀ s t g,live m s t->m.ν s t=some g->R l0 g)
  {c c':AV} {v:Value} (h:WK m.own l0 c=some c') (hc:CV B S m c v):DV m.w R c' v:=by
 by_cases ht : ∃ cs,c = .tup cs
 ·obtain ⟨cs,rfl⟩:=ht
  obtain ⟨vs,rfl,hl,hcc⟩:=lK hc;simp only[WK]at h;cases hcs:cs.mapM (F6 m.own l0) with
  | none=>simp [hcs]at h
  | some az =>
   simp [hcs]at h;subst h;obtain ⟨h1,h2⟩:=U6 _ hcs;refine Or.inr ⟨az,vs,rfl,rfl,h1.symm.trans hl,λ j x u hx hu => ?_⟩;have hj:j<cs.length:=by rw[h1];exact (zS hx).1
   obtain ⟨y,hy,cu⟩:=h2 j cs[j] (zE hj);rw[hx]at hy;obtain rfl:x=y:=by simpa using hy
   exact jL hm l0 R hR hL cu (.ca (hcc j cs[j] u (zE hj) hu))
 ·have h':F6 m.own l0 c=some c':=by
   cases c<;>first|exact h|exact absurd ⟨_,rfl⟩ ht
  exact Or.inl (jL hm l0 R hR hL h' hc)
theorem DA.ca {B:Nat} {S:Nat->Prop} {m:M} {c:AV} {v:Value} (h:DA m.w (safe B S m) c v):CA B S m c v:=by
 rcases h with h|⟨cs,vs,rfl,rfl,hl,hh⟩
 ·exact .one (.rd h)
 ·exact .agg cs vs ⟨hl,λ j x u hx hu => .rd (hh j x u hx hu)⟩
theorem DV.cv {B:Nat} {S:Nat->Prop} {m:M} {c:AV} {v:Value} (h:DV m.w (safe B S m) c v):CV B S m c v:=by
 rcases h with h|⟨cs,vs,rfl,rfl,hl,hh⟩
 ·exact .ca h.ca
 ·exact .tup cs vs hl λ j x u hx hu=>(hh j x u hx hu).ca
theorem VZ : ∀ {cs:List AV},FG cs -> ∀ (j:Nat) (c:AV),cs[j]? = some c->CS c
 | [],_,j,c,h=>by simp at h
 | x::r,hc,j,c,h=>by
  unfold FG at hc;cases j with
  | zero=>simp at h;subst h;exact hc.1
  | succ j=>exact VZ hc.2 j c (by simpa using h)
theorem lE : ∀ {cs:List (List AV)},IO cs -> ∀ (j:Nat) (c:List AV),cs[j]? = some c->FG c
 | [],_,j,c,h=>by simp at h
 | x::r,hc,j,c,h=>by
  unfold IO at hc;cases j with
  | zero=>simp at h;subst h;exact hc.1
  | succ j=>exact lE hc.2 j c (by simpa using h)
theorem Rd.clean {w:World} {R R':Bool->Nat->Prop} (hR : ∀ b,b<w.heap.size->R false b->R' false b) {c:AV} {v:Value} (h:Rd w R c v) (hc:CS c):Rd w R' c v:=by
 induction h with
 | int k n=>exact .int k n
 | bool b=>exact .bool b
 | str s=>exact .str s
 | eo l a cap=>exact .eo l a cap
 | emp b a cap h=>exact .emp b a cap h
 | sl l es b o a6 cap u hne hp h1 u4 hz hcl hr ih =>
  unfold CS at hc;obtain ⟨rfl,hc⟩:=hc;obtain ⟨e,c,he,hc0⟩:=gU hne hp hz;have hb:b<w.heap.size:=ZC (hcl 0 e he 0 c hc0);exact .sl false es b o a6 cap u hne hp (hR b hb h1) u4 hz hcl λ i e he j c hj=>ih i e he j c hj (VZ (lE hc i e he) j c hj)
theorem DA.clean {w:World} {R R':Bool->Nat->Prop} (hR : ∀ b,b<w.heap.size->R false b->R' false b) {c:AV} {v:Value} (h:DA w R c v) (hc:CS c):DA w R' c v:=by
 rcases h with h|⟨cs,vs,rfl,rfl,hl,hh⟩
 ·exact Or.inl (h.clean hR hc)
 ·unfold CS at hc
  exact Or.inr ⟨cs,vs,rfl,rfl,hl,λ j x u hx hu=>(hh j x u hx hu).clean hR (VZ hc j x hx)⟩
theorem DV.clean {w:World} {R R':Bool->Nat->Prop} (hR : ∀ b,b<w.heap.size->R false b->R' false b) {c:AV} {v:Value} (h:DV w R c v) (hc:CS c):DV w R' c v:=by
 rcases h with h|⟨cs,vs,rfl,rfl,hl,hh⟩
 ·exact Or.inl (h.clean hR hc)
 ·unfold CS at hc
  exact Or.inr ⟨cs,vs,rfl,rfl,hl,λ j x u hx hu=>(hh j x u hx hu).clean hR (VZ hc j x hx)⟩
theorem uZ {B:Nat} {S:Nat->Prop} {m:M} {c:AV} {v:Value} (h:CV B S m c v) (hc:CS c):DV m.w (safe B S m) c v:=by
 have one : ∀ {c:AV} {v:Value},CC B S m c v->CS c->Rd m.w (safe B S m) c v:=λ h hc=>by
  cases h with
  | rd h=>exact h
  | _=>unfold CS at hc;exact hc.elim
 have ca : ∀ {c:AV} {v:Value},CA B S m c v->CS c->DA m.w (safe B S m) c v:=λ h hc=>by
  cases h with
  | one h=>exact Or.inl (one h hc)
  | fn=>unfold CS at hc;exact hc.elim
  | agg cs vs h =>
   unfold CS at hc;exact Or.inr ⟨cs,vs,rfl,rfl,h.1,λ j x u hx hu=>one (h.2 j x u hx hu) (VZ hc j x hx)⟩
 cases h with
 | any v=>unfold CS at hc;exact hc.elim
 | ca h=>exact Or.inl (ca h hc)
 | tup as vs hl h =>
  unfold CS at hc;exact Or.inr ⟨as,vs,rfl,rfl,hl,λ j x u hx hu=>ca (h j x u hx hu) (VZ hc j x hx)⟩
theorem jE {f:Nat} {xs:Array Operand} {ts:Array TypeId} (g6:o.op = .call ⟨.value (.func f),xs,ts⟩) {w:World} (h:(callFunc f (xs.map a.eval)).run P w = .ok (.enter f (xs.map a.eval)) w):(execOp a.eval o).run P w = .ok (.enter f (xs.map a.eval)) w:=by
 simp [execOp,g6,resolve,Deferred.ofValue,Act.eval,invoke];exact h
theorem vY {C:Cl} (hC:KX P num C) (hm:DJ B S w0 m) (hs:EI B S m ρ a.eval) {f:Nat} {xs:Array Operand} {m8:List B8} (he:G2 xs.toList m8=true) (hex : ∀ w:World,(callFunc (num f) (xs.map a.eval)).run P w = .ok (.enter (num f) (xs.map a.eval)) w->(execOp a.eval o).run P w = .ok (.enter (num f) (xs.map a.eval)) w) {vs:List AV} {r:AV} (hv:(m8.map ρ).mapM (F6 m.own true)=some vs) (hr:C.pure f vs=some r):EO B S w0 P o a m (.val r):=by
 obtain ⟨hl,hx⟩:=ZK hs he;obtain ⟨hl2,fb⟩:=U6 _ hv;have dp:(xs.map a.eval)=(xs.toList.map a.eval).toArray:=by cases xs;simp
 have ew : ∀ (j:Nat) (c:AV) (v:Value),vs[j]? = some c->(xs.toList.map a.eval)[j]? = some v->CA m.w.heap.size (safe B S m false) ⟨λ_ _=>none,BT.emp,m.w⟩ c v:=by
  intro j c v hc jr;rw[List.getElem?_map]at jr;cases gj:xs.toList[j]? with
  | none=>simp [gj]at jr
  | some x =>
   simp [gj]at jr;subst jr;have hjl:j<m8.length:=by rw[<-hl];exact (zS gj).1
   obtain ⟨y,hy,cu⟩:=fb j (ρ m8[j]) (by rw[List.getElem?_map,zE hjl];rfl);rw[hc]at hy;obtain rfl:c=y:=by simpa using hy
   have q5:=hx j x m8[j] gj (zE hjl);have hda:=jL hm true (safe m.w.heap.size (safe B S m false) ⟨λ_ _=>none,BT.emp,m.w⟩) (λ l b hb ny=>by
    cases l with
    | false=>exact .inl ⟨ny,hb⟩
    | true=>exact .inr (.inr ⟨rfl,hb⟩)) (λ s t g eg hg=>by
    obtain ⟨_,arr,e,hh⟩:=hm.ge eg hg;exact .inr (.inr ⟨rfl,(Array.getElem?_eq_some_iff.1 hh).1⟩)) cu q5
   exact DA.ca (m:=⟨λ_ _=>none,BT.emp,m.w⟩) hda
 have bm:=hC.pure f vs r hr (safe B S m false) m.w (xs.toList.map a.eval) (by rw[<-hl2];simp [hl]) ew;intro K Q hK;unfold Oper.wp;rw[hex _ (hC.ko f vs r hr _ _),dp];refine Calls.mono bm λ e w' ⟨u,eb,di,q5,hcl⟩ => ?_
 subst eb;obtain ⟨fr,cg⟩:=grow hm di;refine hK u ⟨m.ν,m.own,w'⟩ rfl fr cg ?_;refine DV.cv (m:=⟨m.ν,m.own,w'⟩) ((uZ q5 hcl).clean (λ b hb ny => ?_) hcl);rcases ny with ⟨h1,h2⟩|⟨h1,_⟩|⟨h1,_⟩
 ·exact cg.pz false b h2 h1
 ·refine .inr (.inl ⟨Nat.le_trans hm.size h1,λ s t eg hg => ?_⟩)
  obtain ⟨b',g7⟩:=Option.isSome_iff_exists.1 eg;obtain ⟨_,arr,e,hh⟩:=hm.ge ⟨b',g7⟩ hg;have:=(Array.getElem?_eq_some_iff.1 hh).1
  omega
 ·cases h1
theorem Rg {C:Cl} (hC:KX P num C) (hm:DJ B S w0 m) (hs:EI B S m ρ a.eval) {f:Nat} {m8:List B8} (h:CT P num o.op (.call f m8)=true) {vs:List AV} {r:AV} (hv:(m8.map ρ).mapM (F6 m.own true)=some vs) (hr:C.pure f vs=some r):EO B S w0 P o a m (.val r):=by
 obtain ⟨xs,ts,g6,he⟩:=nW h;exact vY hC hm hs he (λ w h=>jE g6 h) hv hr
theorem vV {C:Cl} (hC:KX P num C) (hm:DJ B S w0 m) (hs:EI B S m ρ a.eval) {f:Nat} {m8:List B8} (h:CT P num o.op (.c8 f m8)=true) {r:AV} {l8:BT} (hr:C.db f (m8.map ρ) m.own=some (r,l8)):EO B S w0 P o a m (.af r l8):=by
 obtain ⟨xs,ts,g6,he⟩:=Wx h;obtain ⟨hl,hx⟩:=ZK hs he;have dp:(xs.map a.eval)=(xs.toList.map a.eval).toArray:=by cases xs;simp
 have bm:=hC.db f (m8.map ρ) m.own r l8 hr B S w0 m (xs.toList.map a.eval) rfl hm (by simp [hl]) (λ j c v hc hv=>by
  rw[List.getElem?_map]at hc hv;cases gj:xs.toList[j]? with
  | none=>simp [gj]at hv
  | some x =>
   cases pq:m8[j]? with
   | none=>simp [pq]at hc
   | some y =>
    simp [gj]at hv;simp [pq]at hc;subst hv hc;exact hx j x y gj pq)
 intro K Q hK;unfold Oper.wp;rw[jE g6 (hC.iv f _ _ _ hr _ _),dp];refine Calls.mono bm λ e w' ⟨u,m',eb,hw,e8,fr,cg,q5⟩ => ?_
 subst eb hw;exact hK u m' e8 fr cg q5
theorem Oj (hm:DJ B S w0 m) {w':World} (hb:Below m.w.heap.size m.w w') (s:Nat) (b:GH) (gg:Option Nat) (hz : ∀ x∈b.es,x.length=b.a6)
  (hg:match gg with|none=>b.es=[]|some g=>m.w.heap.size<=g /\ ∃ arr e,w'.heap[g]? = some (.cells arr e (0,0)) /\ ∀ i cs,b.es[i]? = some cs -> ∀ j c,cs[j]? = some c -> ∃ u,arr[i*b.a6+j]? = some u/\CC B S ⟨e6 m s gg,m.own.put s ((m.own s).new b),w'⟩ c u) :
  DJ B S w0 ⟨e6 m s gg,m.own.put s ((m.own s).new b),w'⟩/\FX B S m ⟨e6 m s gg,m.own.put s ((m.own s).new b),w'⟩:=by
 have hν : ∀ s' t',live m s' t'->e6 m s gg s' t'=m.ν s' t':=λ s' t' hl=>by
  unfold e6;rw[if_neg];rintro ⟨rfl,rfl⟩
  exact iN hm _ hl
 have gb : ∀ g,gg=some g->m.w.heap.size<=g:=λ g e=>by subst e;exact hg.1
 have he:FX B S m ⟨e6 m s gg,m.own.put s ((m.own s).new b),w'⟩:=by
  refine XN hm hb.size (λ k hk _=>hb.block k hk) (λ s' => ?_) (λ s' t' b' ht g7 => ?_) (λ s' t' g hl ae l6 => ?_)
  ·rw[OV];split
   ·rename_i h;subst h;omega
   ·exact Nat.le_refl _
  ·rw[JA]at g7
   rw[if_neg (by rintro ⟨rfl,rfl⟩;omega)]at g7;refine ⟨b',g7,rfl,hν s' t' ⟨b',g7⟩,λ g ar e' ae ha=>⟨ar,?_,rfl⟩⟩;exact (hb.block g (Array.getElem?_eq_some_iff.1 ha).1).trans ha
  ·obtain ⟨b',g7⟩:=hl
   rw[JA]at g7;by_cases h:s'=s/\t'=m.own.e5 s
   ·simp only[e6,if_pos h]at ae
    have:=gb g ae
    omega
   ·rw[if_neg h]at g7
    exact ⟨s',t',⟨b',g7⟩,by rw[<-hν s' t' ⟨b',g7⟩];exact ae⟩
 refine ⟨⟨hm.below.trans (hb.mono hm.size),Nat.le_trans hm.size hb.size,λ s' t' ht => ?_,λ s' t' b' g7 => ?_,λ s1 t1 s2 t2 b1 b2 g h1 h2 g1 g2 => ?_⟩,he⟩
 ·rw[OV]at ht
  rw[JA,if_neg]
  ·refine hm.fresh s' t' ?_
   split at ht
   ·rename_i h;subst h;omega
   ·exact ht
  ·rintro ⟨rfl,rfl⟩
   simp at ht;omega
 ·rw[JA]at g7
  by_cases h:s'=s/\t'=m.own.e5 s
  ·rw[if_pos h]at g7
   obtain rfl:b=b':=by simpa using g7
   refine ⟨hz,?_⟩;show match e6 m s gg s' t' with|none=>_|some g=>_
   rw[show e6 m s gg s' t'=gg by simp [e6,h]];cases gg with
   | none=>exact hg
   | some g=>exact ⟨Nat.le_trans hm.size hg.1,hg.2⟩
  ·rw[if_neg h]at g7
   obtain ⟨h1,h2⟩:=hm.blk s' t' b' g7;refine ⟨h1,?_⟩;show match e6 m s gg s' t' with|none=>_|some g=>_
   rw[hν s' t' ⟨b',g7⟩];cases hv:m.ν s' t' with
   | none=>rw[hv]at h2;exact h2
   | some g =>
    rw[hv]at h2;obtain ⟨h3,ar,e',h4,h5⟩:=h2;refine ⟨h3,ar,e',(hb.block g (Array.getElem?_eq_some_iff.1 h4).1).trans h4,λ i cs hi j c hj => ?_⟩;obtain ⟨u,hu,hcc⟩:=h5 i cs hi j c hj;exact ⟨u,hu,he.cc hcc⟩
 ·rw[JA]at h1 h2
  have lt : ∀ s' t' b',m.own.get s' t'=some b'->e6 m s gg s' t'=some g->g<m.w.heap.size:=λ s' t' b' g7 ae=>by
   rw[hν s' t' ⟨b',g7⟩]at ae;obtain ⟨_,ar,e',h4⟩:=hm.ge ⟨b',g7⟩ ae;exact (Array.getElem?_eq_some_iff.1 h4).1
  have at_ : ∀ s' t',s'=s/\t'=m.own.e5 s->e6 m s gg s' t'=some g->m.w.heap.size<=g:=λ s' t' h ae=>by
   simp only[e6,if_pos h]at ae;exact gb g ae
  by_cases p1:s1=s/\t1=m.own.e5 s<;>by_cases p2:s2=s/\t2=m.own.e5 s
  ·exact ⟨p1.1.trans p2.1.symm,p1.2.trans p2.2.symm⟩
  ·rw[if_neg p2]at h2
   have:=lt s2 t2 b2 h2 g2
   have:=at_ s1 t1 p1 g1
   omega
  ·rw[if_neg p1]at h1
   have:=lt s1 t1 b1 h1 g1
   have:=at_ s2 t2 p2 g2
   omega
  ·rw[if_neg p1]at h1
   rw[if_neg p2]at h2;exact hm.inj s1 t1 s2 t2 b1 b2 g h1 h2 (by rw[<-hν s1 t1 ⟨b1,h1⟩];exact g1) (by rw[<-hν s2 t2 ⟨b2,h2⟩];exact g2)
theorem Py {C:Cl} (hC:KX P num C) (hm:DJ B S w0 m) (hs:EI B S m ρ a.eval) {s f:Nat} {m8:List B8} (h:CT P num o.op (.o0 s f m8)=true) {vs:List AV} (hv:(m8.map ρ).mapM (UA m.own true)=some vs) {z:Nat} {es:List (List AV)} (hr:TQ (C.db f vs BT.emp)=some (z,es)) :
  EO B S w0 P o a m (.new s ⟨z,es⟩ (λ t => .row s t z 0 es.length)):=by
 obtain ⟨xs,ts,g6,he⟩:=nW (Wz h);obtain ⟨s0,t0,o',b0,hin,l7,rfl,hcl⟩:=Oi hr;obtain ⟨hl,hx⟩:=ZK hs he;obtain ⟨hl2,fb⟩:=U6 _ hv;have dp:(xs.map a.eval)=(xs.toList.map a.eval).toArray:=by cases xs;simp
 have ew : ∀ (j:Nat) (c:AV) (v:Value),vs[j]? = some c->(xs.toList.map a.eval)[j]? = some v->CV m.w.heap.size (safe B S m false) ⟨λ_ _=>none,BT.emp,m.w⟩ c v:=by
  intro j c v hc jr;rw[List.getElem?_map]at jr;cases gj:xs.toList[j]? with
  | none=>simp [gj]at jr
  | some x =>
   simp [gj]at jr;subst jr;have hjl:j<m8.length:=by rw[<-hl];exact (zS gj).1
   obtain ⟨y,hy,cu⟩:=fb j (ρ m8[j]) (by rw[List.getElem?_map,zE hjl];rfl);rw[hc]at hy;obtain rfl:c=y:=by simpa using hy
   have q5:=hx j x m8[j] gj (zE hjl);have hN:(ρ m8[j] = .nil/\c = .nil)\/F6 m.own true (ρ m8[j])=some c:=by
    cases e:ρ m8[j] with
    | nil=>rw[e]at cu;exact .inl ⟨rfl,(Option.some.inj cu).symm⟩
    | _=>rw[e]at cu;exact .inr cu
   rcases hN with ⟨e1,rfl⟩|cu
   ·rw[e1]at q5
    rw[UU q5];exact .ca (.one .nil)
   have hda:=jL hm true (safe m.w.heap.size (safe B S m false) ⟨λ_ _=>none,BT.emp,m.w⟩) (λ l b hb ny=>by
    cases l with
    | false=>exact .inl ⟨ny,hb⟩
    | true=>exact .inr (.inr ⟨rfl,hb⟩)) (λ s t g eg hg=>by
    obtain ⟨_,arr,e,hh⟩:=hm.ge eg hg;exact .inr (.inr ⟨rfl,(Array.getElem?_eq_some_iff.1 hh).1⟩)) cu q5
   exact .ca (DA.ca (m:=⟨λ_ _=>none,BT.emp,m.w⟩) hda)
 have hm0:DJ m.w.heap.size (safe B S m false) m.w ⟨λ_ _=>none,BT.emp,m.w⟩:=⟨Below.refl _ _,Nat.le_refl _,λ_ _ _=>rfl,(λ s t b h=>by cases h),(λ_ _ _ _ _ _ _ h=>by cases h)⟩;have bm:=hC.db f vs BT.emp _ o' hin m.w.heap.size (safe B S m false) m.w ⟨λ_ _=>none,BT.emp,m.w⟩ (xs.toList.map a.eval) rfl hm0 (by rw[<-hl2];simp [hl]) ew;intro K Q hK;unfold Oper.wp;rw[jE g6 (hC.iv f _ _ _ hin _ _),dp];refine Calls.mono bm λ e w' ⟨u,m',eb,hw,e8,fr,Iu,q5⟩ => ?_
 subst eb hw;have di:Below m.w.heap.size m.w m'.w:=fr.below;rw[<-e8]at l7;obtain ⟨hz,fy⟩:=fr.blk s0 t0 b0 l7;obtain ⟨ad,cap,rfl,ht,y8,gf,ha,hb⟩:=XD q5;obtain ⟨aw,hor⟩:=hb b0 l7;subst aw;have hold : ∀ s t g,live m s t->m.ν s t=some g->g<m.w.heap.size:=λ s t g eg hg=>by
  obtain ⟨_,arr,e,hh⟩:=hm.ge eg hg;exact (Array.getElem?_eq_some_iff.1 hh).1
 have ri : ∀ s' t' g,live ⟨e6 m s (m'.ν s0 t0),m.own.put s ((m.own s).new ⟨b0.a6,b0.es⟩),m'.w⟩ s' t'->e6 m s (m'.ν s0 t0) s' t'=some g->g<m.w.heap.size\/m'.ν s0 t0=some g:=λ s' t' g eg hg=>by
  obtain ⟨b',g7⟩:=eg;rw[JA]at g7;by_cases hst:s'=s/\t'=m.own.e5 s
  ·simp only[e6,if_pos hst]at hg
   exact Or.inr hg
  ·rw[if_neg hst]at g7
   simp only[e6,if_neg hst]at hg;exact Or.inl (hold s' t' g ⟨b',g7⟩ hg)
 have hR : ∀ b,b<m'.w.heap.size->safe m.w.heap.size (safe B S m false) m' false b->safe B S ⟨e6 m s (m'.ν s0 t0),m.own.put s ((m.own s).new ⟨b0.a6,b0.es⟩),m'.w⟩ false b:=λ b hbs ny=>by
  rcases ny with ⟨h1,h2⟩|⟨h1,h2⟩|⟨h1,_⟩
  ·rcases h1 with h1|⟨h1,h3⟩|⟨h1,_⟩
   ·exact .inl h1
   ·refine .inr (.inl ⟨h1,λ s' t' eg hg => ?_⟩)
    obtain ⟨b',g7⟩:=Option.isSome_iff_exists.1 eg;have o4:=g7;rw[JA]at o4;by_cases hst:s'=s/\t'=m.own.e5 s
    ·simp only[e6,if_pos hst]at hg
     rw[hg]at fy;have:=fy.1
     omega
    ·rw[if_neg hst]at o4
     simp only[e6,if_neg hst]at hg;exact h3 s' t' (by rw[o4];rfl) hg
   ·cases h1
  ·refine .inr (.inl ⟨Nat.le_trans hm.size h1,λ s' t' eg hg => ?_⟩)
   rcases ri s' t' b (Option.isSome_iff_exists.1 eg) hg with h3|h3
   ·omega
   ·exact h2 s0 t0 (by rw[l7];rfl) h3
  ·cases h1
 obtain ⟨jx,cg⟩:=Oj hm di s ⟨b0.a6,b0.es⟩ (m'.ν s0 t0) hz (by
  cases hν:m'.ν s0 t0 with
  | none=>rw[hν]at fy;exact fy
  | some g =>
   rw[hν]at fy hR;obtain ⟨h1,arr,e,h2,h3⟩:=fy;refine ⟨h1,arr,e,h2,λ i cs hi j c hj => ?_⟩;obtain ⟨u,hu,hcc⟩:=h3 i cs hi j c hj;refine ⟨u,hu,.rd ?_⟩;have kv:=VZ (lE hcl i cs hi) j c hj;have iy:Rd m'.w (safe m.w.heap.size (safe B S m false) m') c u:=by
    cases hcc with
    | rd h=>exact h
    | _=>unfold CS at kv;exact kv.elim
   exact iy.clean hR kv)
 refine hK _ ⟨e6 m s (m'.ν s0 t0),m.own.put s ((m.own s).new ⟨b0.a6,b0.es⟩),m'.w⟩ rfl jx cg (.ca (.one (.row s (m.own.e5 s) b0.a6 0 b0.es.length ad cap (by show m.own.e5 s<BT.e5 (m.own.put s _) s;rw[OV,if_pos rfl];omega) y8 gf ha λ b1 jt => ?_)));have um:(m.own.put s ((m.own s).new ⟨b0.a6,b0.es⟩)).get s (m.own.e5 s)=some b1:=jt;rw[JA,if_pos ⟨rfl,rfl⟩]at um;obtain rfl:=Option.some.inj um;refine ⟨rfl,?_⟩;rcases hor with h0|⟨g,arr,e,hg,ea,hh,hle⟩
 ·exact .inl h0
 ·exact .inr ⟨g,arr,e,by simp [e6,hg],ea,hh,hle⟩
theorem vC {p:Bool} {f g:Nat} {cs:List AV} {v:Value} (h:CV B S m (.fn p f g cs) v) : ∃ vs:List Value,v = .func (.func g) #[] vs.toArray/\CL B S m cs vs:=by
 cases h with
 | ca h=>cases h with
  | one h=>cases h with
   | rd h=>cases h
  | fn p f g cs vs h=>exact ⟨vs,rfl,h⟩
theorem Gg {f:Nat} {x:Operand} {xs:Array Operand} {ts:Array TypeId} {vs:Array Value} (g6:o.op = .call ⟨.value x,xs,ts⟩) (hx:a.eval x = .func (.func f) #[] vs) {w:World} (h:(callFunc f (xs.map a.eval++vs)).run P w = .ok (.enter f (xs.map a.eval++vs)) w):(execOp a.eval o).run P w = .ok (.enter f (xs.map a.eval++vs)) w:=by
 simp [execOp,g6,resolve,Deferred.ofValue,hx,invoke];exact h
theorem Pz {C:Cl} (hC:KX P num C) (hm:DJ B S w0 m) (hs:EI B S m ρ a.eval) {x':B8} {m8:List B8} (h:CT P num o.op (.n8 x' m8)=true) {f:Nat} {cs:List AV} (hf:ρ x' = .fn false f (num f) cs) {r:AV} {l8:BT} (hr:C.db f (m8.map ρ++cs) m.own=some (r,l8)):EO B S w0 P o a m (.af r l8):=by
 obtain ⟨x,xs,ts,g6,hx0,he⟩:=Dp h;obtain ⟨hl,hx⟩:=ZK hs he;obtain ⟨vs,hv,hcl⟩:=vC (hf ▸ hs x x' hx0);have dp:(xs.map a.eval++vs.toArray)=(xs.toList.map a.eval++vs).toArray:=by cases xs;simp
 have bm:=hC.db f (m8.map ρ++cs) m.own r l8 hr B S w0 m (xs.toList.map a.eval++vs) rfl hm (by simp [hl,hcl.1]) (λ j c v hc hv=>by
  by_cases hj:j<m8.length
  ·rw[List.getElem?_append_left (by simpa using hj),List.getElem?_map]at hc
   rw[List.getElem?_append_left (by simpa [hl] using hj),List.getElem?_map]at hv;have Jb:j<xs.toList.length:=by rw[hl];exact hj
   rw[zE hj]at hc;rw[zE Jb]at hv;simp only[Option.map_some,Option.some.injEq]at hc hv;subst hc hv;exact hx j _ _ (zE Jb) (zE hj)
  ·rw[List.getElem?_append_right (by simpa using hj),List.length_map]at hc
   rw[List.getElem?_append_right (by simpa [hl] using hj),List.length_map,hl]at hv;exact .ca (.one (hcl.2 _ c v hc hv)))
 intro K Q hK;unfold Oper.wp;rw[Gg g6 hv (hC.iv f _ _ _ hr _ _),dp];refine Calls.mono bm λ e w' ⟨u,m',eb,hw,e8,fr,cg,q5⟩ => ?_
 subst eb hw;exact hK u m' e8 fr cg q5
theorem Pw {C:Cl} (hC:KX P num C) (hm:DJ B S w0 m) (hs:EI B S m ρ a.eval) {x':B8} {m8:List B8} (h:CT P num o.op (.n8 x' m8)=true) {f:Nat} (hf:ρ x' = .fn true f (num f) []) {vs:List AV} {r:AV} (hv:(m8.map ρ).mapM (F6 m.own true)=some vs) (hr:C.pure f vs=some r):EO B S w0 P o a m (.val r):=by
 obtain ⟨x,xs,ts,g6,hx0,he⟩:=Dp h;obtain ⟨us,hu,hcl⟩:=vC (hf ▸ hs x x' hx0);have hu0:us=[]:=List.eq_nil_of_length_eq_zero (by rw[<-hcl.1];rfl);subst hu0;refine vY hC hm hs he (λ w h => ?_) hv hr;have:=Gg (P:=P) (w:=w) g6 hu (by simpa using h)
 simpa using this
theorem Rd.to1 {w:World} {R R':Bool->Nat->Prop} (hR : ∀ l b,b<w.heap.size->R l b -> ∀ l',R' l' b) {c:AV} {v:Value} (h:Rd w R c v) (hq:J5 c=true):Rd w R' (aD c) v:=by
 cases h with
 | int k n=>exact .int k n
 | bool b=>exact .bool b
 | str s=>simp [J5]at hq
 | emp=>simp [J5]at hq
 | eo l a cap=>exact .eo false a cap
 | sl l es b o a6 cap u hne hp h1 u4 hz hcl hr =>
  obtain ⟨e,c,he,hc0⟩:=gU hne hp hz;have hb:b<w.heap.size:=ZC (hcl 0 e he 0 c hc0);exact .sl false es b o a6 cap u hne hp (hR l b hb h1 false) u4 hz hcl λ i e he j c hj=>(hr i e he j c hj).mono (λ l b hb h=>hR l b hb h l) (λ_ _ _ _=>rfl)
theorem Rd.om {w:World} {R R':Bool->Nat->Prop} (hR : ∀ b,b<w.heap.size->R false b->R' true b) {c:AV} {v:Value} (h:Rd w R c v) (hc:CS c) (hf:aJ c):Rd w R' (cO c) v:=by
 cases h with
 | int k n=>exact .int k n
 | bool b=>exact .bool b
 | str s=>exact hf.elim
 | emp=>exact hf.elim
 | eo l a cap=>exact .eo true a cap
 | sl l es b o a6 cap u hne hp h1 u4 hz hcl hr =>
  unfold CS at hc;obtain ⟨rfl,hc⟩:=hc;obtain ⟨e,c,he,hc0⟩:=gU hne hp hz;have hb:b<w.heap.size:=ZC (hcl 0 e he 0 c hc0);refine .sl true es b o a6 cap u hne hp (hR b hb h1) u4 hz hcl λ i e he j c hj => ?_
  have Ap:=hf e (zM he) c (zM hj);have rn:=hr i e he j c hj;generalize u i j=vv at rn ⊢;cases rn<;>first|exact .int _ _|exact .bool _|(simp [Db]at Ap)
theorem Px {C:Cl} (hC:KX P num C) (hm:DJ B S w0 m) (hs:EI B S m ρ a.eval) {f:Nat} {m8:List B8} (h:CT P num o.op (.l9 f m8)=true) (hq:(m8.map ρ).all dq=true) {r:AV} (hr:C.pure f ((m8.map ρ).map nb)=some r) (hfl:aM r):EO B S w0 P o a m (.val (ka r)):=by
 obtain ⟨xs,ts,g6,he⟩:=nW (Wy h);obtain ⟨hl,hx⟩:=ZK hs he;have dp:(xs.map a.eval)=(xs.toList.map a.eval).toArray:=by cases xs;simp
 have hR : ∀ l b,b<m.w.heap.size->safe B S m l b -> ∀ l',safe m.w.heap.size (safe B S m true) ⟨λ_ _=>none,BT.emp,m.w⟩ l' b:=λ l b hb h l' => .inl ⟨pS h,hb⟩
 have hcell : ∀ (c:AV) (v:Value),CC B S m c v->J5 c=true->Rd m.w (safe m.w.heap.size (safe B S m true) ⟨λ_ _=>none,BT.emp,m.w⟩) (aD c) v:=λ c v hc hd=>by
  cases hc with
  | rd hr=>exact hr.to1 hR hd
  | nil=>exact .eo false none 0
  | row=>simp [J5]at hd
  | ptr=>simp [J5]at hd
  | o6=>simp [J5]at hd
 have ew : ∀ (j:Nat) (c:AV) (v:Value),((m8.map ρ).map nb)[j]? = some c->(xs.toList.map a.eval)[j]? = some v->CA m.w.heap.size (safe B S m true) ⟨λ_ _=>none,BT.emp,m.w⟩ c v:=by
  intro j c v hc jr;rw[List.getElem?_map,List.getElem?_map]at hc;rw[List.getElem?_map]at jr;cases gj:xs.toList[j]? with
  | none=>simp [gj]at jr
  | some x =>
   cases pq:m8[j]? with
   | none=>simp [pq]at hc
   | some y =>
    simp [gj]at jr;simp [pq]at hc;subst jr hc;have q5:=hx j x y gj pq;have hd:dq (ρ y)=true:=List.all_eq_true.1 hq _ (List.mem_map_of_mem (zM pq));generalize ρ y=cy at q5 hd ⊢;generalize a.eval x=vx at q5 ⊢;cases q5 with
    | any=>simp [dq,J5]at hd
    | tup=>simp [dq,J5]at hd
    | ca hca =>
     cases hca with
     | one hc1 =>
      have hd1:J5 cy=true/\nb cy=aD cy:=by
       cases hc1 with
       | rd hr=>cases hr<;>exact ⟨hd,rfl⟩
       | _=>exact ⟨hd,rfl⟩
      rw[hd1.2];exact .one (.rd (hcell _ _ hc1 hd1.1))
     | agg cs vs hcl =>
      refine .agg (cs.map aD) vs ⟨by simpa using hcl.1,λ k c' v' hc' jq => ?_⟩;rw[List.getElem?_map]at hc';cases mr:cs[k]? with
      | none=>simp [mr]at hc'
      | some c0 =>
       simp [mr]at hc';subst hc';exact .rd (hcell c0 v' (hcl.2 k c0 v' mr jq) (List.all_eq_true.1 hd _ (zM mr)))
     | fn=>simp [dq,J5]at hd
 have bm:=hC.pure f _ r hr (safe B S m true) m.w (xs.toList.map a.eval) (by simp [hl]) ew;intro K Q hK;unfold Oper.wp;rw[jE g6 (hC.ko f _ r hr _ _),dp];refine Calls.mono bm λ e w' ⟨u,eb,di,q5,hcl⟩ => ?_
 subst eb;obtain ⟨fr,cg⟩:=grow hm di;refine hK u ⟨m.ν,m.own,w'⟩ rfl fr cg ?_;have fx : ∀ b,b<w'.heap.size->safe m.w.heap.size (safe B S m true) ⟨λ_ _=>none,BT.emp,w'⟩ false b->safe B S ⟨m.ν,m.own,w'⟩ true b:=λ b hb ny=>by
  rcases ny with ⟨h1,h2⟩|⟨h1,_⟩|⟨h1,_⟩
  ·exact cg.pz true b h2 h1
  ·refine .inr (.inl ⟨Nat.le_trans hm.size h1,λ s t eg hg => ?_⟩)
   obtain ⟨b',g7⟩:=Option.isSome_iff_exists.1 eg;obtain ⟨_,arr,e,hh⟩:=hm.ge ⟨b',g7⟩ hg;have:=(Array.getElem?_eq_some_iff.1 hh).1
   omega
  ·cases h1
 rcases uZ q5 hcl with hda|⟨cs,vs,rfl,_⟩
 ·rcases hda with iy|⟨cs,vs,rfl,rfl,hl2,hh⟩
  ·have e1:ka r=cO r/\aJ r:=by cases iy<;>exact ⟨rfl,hfl⟩
   rw[show ED.valOf (.val (ka r)) m.own=ka r from rfl,e1.1];exact .ca (.one (.rd (iy.om fx hcl e1.2)))
  ·unfold CS at hcl
   refine .ca (.agg (cs.map cO) vs ⟨by simpa using hl2,λ k c' v' hc' jq => ?_⟩);rw[List.getElem?_map]at hc';cases mr:cs[k]? with
   | none=>simp [mr]at hc'
   | some c0 =>
    simp [mr]at hc';subst hc';exact .rd ((hh k c0 v' mr jq).om fx (VZ hcl k c0 mr) (hfl c0 (zM mr)))
 ·exact hfl.elim
end
end Go.Eng

namespace Go.Eng
open Go.RowKit
section
variable {B:Nat} {S:Nat->Prop} {w0:World} {m:M}
variable {P:Program} {num:Nat->Nat} {o:Oper} {a:Act} {ρ:B8->AV} {C:Cl} {b9:List Nat}
theorem Uh (hm:DJ B S w0 m) (hs:EI B S m ρ a.eval) {mx:Bool} {m8:List B8} (h:CT P num o.op (.mm mx m8)=true) {v r:AV} {l:List AV} (hx:m8.map ρ=v::l) (hv:N8 mx v l=some r):EO B S w0 P o a m (.val r):=by
 by_cases hi : ∃ k n,v = .int k n
 ·exact Ug hm hs h hx hv hi
 ·cases l with
  | cons u q =>
   simp only[N8]at hv;exfalso;cases v<;>first|(exact hi ⟨_,_,rfl⟩)|(simp [U9]at hv)
  | nil =>
   simp only[N8,Option.some.injEq]at hv;subst hv;obtain ⟨xs,ts,g6,he⟩:=Ds h;cases m8 with
   | nil=>simp at hx
   | cons y yr =>
    simp only[List.map_cons,List.cons.injEq,List.map_eq_nil_iff]at hx;obtain ⟨rfl,rfl⟩:=hx;obtain ⟨xl⟩:=xs;cases xl with
    | nil=>simp [G2]at he
    | cons x xr =>
     simp only[G2,Bool.and_eq_true]at he;cases xr with
     | cons=>simp [G2]at he
     | nil =>
      refine GX hm (u:=a.eval x) ?_ (hs x y he.1);cases mx<;>simp [execOp,g6,resolve,invoke,builtin,Builtin.min_,Builtin.max_]
theorem zA (o:BT) (l:List Nat) (s t:Nat) (b:GH) (h:(o.m4 l).get s t=some b):o.get s t=some b:=by
 induction l with
 | nil=>exact h
 | cons x r ih =>
  unfold BT.get BT.m4 at h;by_cases hs:s=x
  ·simp [hs]at h
  ·simp only[if_neg hs]at h
   exact ih h
theorem Ajx {o:BT} {l:List Nat} {s t i j n:Nat} {cs:List AV} (h:(o.m4 l).jb s t i j n=some cs):o.jb s t i j n=some cs:=by
 unfold BT.jb at *;cases hg:(o.m4 l).get s t with
 | none=>simp [hg]at h
 | some b =>
  rw[zA o l s t b hg];simpa [hg] using h
theorem Tf {o:BT} {l:List Nat} {v:AV} {es:List (List AV)} (h:G5 (o.m4 l) v=some es):G5 o v=some es:=by
 cases v with
 | z9 v=>cases v<;>exact h
 | row s t z off len =>
  simp only[G5]at h ⊢;cases hg:(o.m4 l).get s t with
  | none=>simp [hg]at h
  | some b =>
   rw[zA o l s t b hg];simpa [hg] using h
 | _=>exact h
theorem ZX {α β:Type} {f g:α->Option β} (Iv : ∀ x y,f x=some y->g x=some y) : ∀ {l:List α} {l':List β},l.mapM f=some l'->l.mapM g=some l'
 | [],l',h=>by simpa using h
 | x::r,l',h=>by
  simp only[List.mapM_cons,Option.bind_eq_bind,Option.pure_def]at h ⊢;cases hx:f x with
  | none=>simp [hx]at h
  | some y =>
   cases hr:r.mapM f with
   | none=>simp [hx,hr]at h
   | some r' =>
    simp [hx,hr]at h;simp [Iv x y hx,ZX Iv hr,h]
theorem qJ (o:BT) (l:List Nat) (b:Bool) : ∀ (d:Nat) (c c':AV),snap (o.m4 l) b d c=some c'->snap o b d c=some c'
 | 0,c,c',h=>by cases c<;>simp_all [snap]
 | d+1,c,c',h=>by
  cases c<;>first|(simp_all [snap];done)|skip
  rename_i s t z off len;simp only[snap]at h ⊢;cases he:G5 (o.m4 l) (.row s t z off len) with
  | none=>simp [he]at h
  | some es =>
   simp only[he]at h;rw[Tf he];simp only[Option.map_eq_some_iff]at h ⊢;obtain ⟨es',h1,h2⟩:=h;exact ⟨es',ZX (λ x y hx=>ZX (qJ o l b d) hx) h1,h2⟩
theorem Hh (o:BT) (l:List Nat) (b:Bool) (c c':AV) (h:F6 (o.m4 l) b c=some c'):F6 o b c=some c':=by
 cases c<;>first|exact qJ o l b 6 _ _ h|skip
 simp only[F6,Option.map_eq_some_iff]at h ⊢;obtain ⟨cs,h1,h2⟩:=h;exact ⟨cs,ZX (qJ o l b 6) h1,h2⟩
theorem AkQ (o:BT) (l:List Nat) (b:Bool) (c c':AV) (h:UA (o.m4 l) b c=some c'):UA o b c=some c':=by
 rcases Classical.em (c = .nil) with rfl|hc
 ·exact h
 ·have e : ∀ o:BT,UA o b c=F6 o b c:=λ o=>by cases c<;>first|rfl|exact (hc rfl).elim
  rw[e]at h ⊢;exact Hh o l b _ _ h
theorem Zt {o:BT} {l:List Nat} {b:Bool} {xs vs:List AV} (h:xs.mapM (UA (o.m4 l) b)=some vs):xs.mapM (UA o b)=some vs:=ZX (AkQ o l b) h
theorem Zr {o:BT} {l:List Nat} {b:Bool} {xs vs:List AV} (h:xs.mapM (F6 (o.m4 l) b)=some vs):xs.mapM (F6 o b)=some vs:=ZX (Hh o l b) h
theorem Ak2 {own l8:BT} {s t i j:Nat} {vs:List AV} (h:own.fm s t i j vs=some l8):own.put s (l8 s)=l8:=by
 unfold BT.fm at h;cases hg:own.get s t with
 | none=>simp [hg]at h
 | some b =>
  simp only[hg]at h;cases he:b.es[i]? with
  | none=>simp [he]at h
  | some cs =>
   simp only[he]at h;split at h
   ·obtain rfl:=Option.some.inj h
    rw[BT.e7]
   ·cases h
theorem Te (hC:KX P num C) (hm:DJ B S w0 m) (hs:EI B S m ρ a.eval) {sd:GN} (hok:CT P num o.op sd=true) {E:ED} (h:c7 C b9 ρ m.own sd=some E):EO B S w0 P o a m E:=by
 cases sd with
 | a8 x=>simp only[c7,Option.some.injEq]at h;subst h;exact Ui hm hs hok
 | q7 s z=>simp only[c7,Option.some.injEq]at h;subst h;exact Up hm hok
 | pick c x y =>
  simp only[c7]at h;split at h
  ·rename_i hc;simp only[Option.some.injEq]at h;subst h;exact vX hm hs hok hc
  ·rename_i hc;simp only[Option.some.injEq]at h;subst h;exact vX hm hs hok hc
  ·cases h
 | bin f x y =>
  simp only[c7]at h;split at h
  ·rename_i k n k' n' hx hy
   simp only[Option.map_eq_some_iff]at h;obtain ⟨v,hv,rfl⟩:=h;exact Rb hm hs hok hx hy hv
  ·cases h
 | ke ne n x y =>
  simp only[c7]at h;split at h
  ·rename_i cs ds hx hy
   split at h
   ·rename_i a b ha hb
    split at h
    ·rename_i hn
     simp only[Option.some.injEq]at h;subst h;exact Qv hm hs hok hx hy ha hb hn
    ·cases h
   ·cases h
  ·cases h
 | beq ne x y =>
  simp only[c7]at h;split at h
  ·rename_i b b' hx hy
   simp only[Option.some.injEq]at h;subst h;exact Ra hm hs hok hx hy
  ·cases h
 | un f x =>
  simp only[c7,Option.map_eq_some_iff]at h;obtain ⟨v,hv,rfl⟩:=h;exact Uo hm hs hok hv
 | conv k x =>
  simp only[c7]at h;split at h
  ·rename_i k' n hx
   simp only[Option.some.injEq]at h;subst h;exact Qb hm hs hok hx
  ·cases h
 | box s x =>
  simp only[c7]at h;split at h
  ·rename_i cs hcs
   simp only[Option.some.injEq]at h;subst h;exact Rc hm hs hok hcs
  ·cases h
 | alloc s z=>simp only[c7,Option.some.injEq]at h;subst h;exact Qw hm hok
 | build z ps =>
  simp only[c7,Option.map_eq_some_iff]at h;obtain ⟨cs,hcs,rfl⟩:=h;exact Rf hm hs hok hcs
 | c4 s a6 ps =>
  simp only[c7]at h;split at h
  ·rename_i es dk
   split at h
   ·rename_i hz
    simp only[Option.some.injEq]at h;subst h;exact Re hm hs hok dk hz
   ·cases h
  ·cases h
 | a7 x off =>
  simp only[c7]at h;split at h
  ·rename_i s t i j hx
   simp only[Option.some.injEq]at h;subst h;exact Qf hm hs hok hx
  ·rename_i cs hx
   simp only[Option.some.injEq]at h;subst h;exact Qe hm hs hok hx
  ·cases h
 | gx x off n agg =>
  simp only[c7]at h;split at h
  ·rename_i cs hx
   split at h
   ·rename_i ds hp
    simp only[Option.map_eq_some_iff]at h;obtain ⟨v,hv,rfl⟩:=h;exact Tu hm hs hok hx hp hv
   ·cases h
  ·cases h
 | a4 arr a6 x i =>
  simp only[c7]at h;split at h
  ·rename_i k n hi
   split at h
   ·rename_i len s t i' j hx
    split at h
    ·rename_i hn
     simp only[Option.some.injEq]at h;subst h;exact Tv hm hs hok hi hx hn.1 hn.2
    ·cases h
   ·rename_i len cs hx
    split at h
    ·rename_i hn
     simp only[Option.some.injEq]at h;subst h;exact Tw hm hs hok hi hx hn.1 hn.2
    ·cases h
   ·rename_i s t z off len hx
    split at h
    ·rename_i hn
     simp only[Option.some.injEq]at h;subst h;exact Tx hm hs hok hi hx hn.1 hn.2.1 hn.2.2
    ·cases h
   ·rename_i l es hx
    split at h
    ·rename_i h0
     split at h
     ·rename_i cs hcs
      split at h
      ·rename_i hz
       simp only[Option.some.injEq]at h;subst h;exact Tz hm hs hok hi hx h0 hcs hz
      ·cases h
     ·cases h
    ·cases h
   ·cases h
  ·cases h
 | idx len a6 agg x i =>
  simp only[c7]at h;split at h
  ·rename_i k n cs hi hx
   split at h
   ·rename_i hn
    split at h
    ·rename_i ds hp
     simp only[Option.map_eq_some_iff]at h;obtain ⟨v,hv,rfl⟩:=h;exact Ua hm hs hok hi hx hn.1 hn.2 hp hv
    ·cases h
   ·cases h
  ·cases h
 | ld agg n x =>
  simp only[c7]at h;split at h
  ·rename_i s t i j hx
   split at h
   ·rename_i cs hcs
    simp only[Option.map_eq_some_iff]at h;obtain ⟨v,hv,rfl⟩:=h;exact Uc hm hs hok hx (Ajx hcs) hv
   ·cases h
  ·rename_i cs hx
   split at h
   ·rename_i ds hp
    simp only[Option.map_eq_some_iff]at h;obtain ⟨v,hv,rfl⟩:=h;exact Ub hm hs hok hx hp hv
   ·cases h
  ·cases h
 | st n x v =>
  simp only[c7]at h;split at h
  ·rename_i s t i j vs hx dw
   split at h
   ·rename_i hn
    simp only[Option.map_eq_some_iff]at h;obtain ⟨l8,ho,rfl⟩:=h;exact wB hm hs hok hx dw hn ho
   ·cases h
  ·cases h
 | mk s a6 bytes zero l c =>
  simp only[c7]at h;split at h
  ·rename_i kl a' kc b' hl hc
   split at h
   ·rename_i hn
    simp only[Option.some.injEq]at h;subst h;exact Ue hm hs hok hl hc hn.1 hn.2.1 hn.2.2.1 hn.2.2.2.1 hn.2.2.2.2
   ·cases h
  ·cases h
 | ay a6 x lo hi =>
  simp only[c7]at h;have Ii : ∀ (d:Nat) (y:Option B8) (q:Nat),(match y with|none=>some d|some o=>match ρ o with | .int _ n=>if 0<=n/\n<=d then some n.toNat else none|_=>none)=some q -> ∃ n:Int,KL ρ d y=some n/\0<=n/\n<=d/\q=n.toNat:=λ d y q hq=>by
   cases y with
   | none=>simp only[Option.some.injEq]at hq;subst hq;exact ⟨d,rfl,by omega,by omega,by simp⟩
   | some y =>
    simp only at hq;cases hy:ρ y with
    | int k n =>
     simp only[hy]at hq;split at hq
     ·rename_i hn
      simp only[Option.some.injEq]at hq;subst hq;exact ⟨n,by simp [KL,hy],hn.1,hn.2,rfl⟩
     ·cases hq
    | _=>simp [hy]at hq
  have uc : ∀ (y:Option B8) (q:Nat),(match y with|none=>some 0|some o=>match ρ o with | .int _ n=>if 0<=n then some n.toNat else none|_=>none)=some q -> ∃ n:Int,KL ρ 0 y=some n/\0<=n/\q=n.toNat:=λ y q hq=>by
   cases y with
   | none=>simp only[Option.some.injEq]at hq;subst hq;exact ⟨0,rfl,by omega,by simp⟩
   | some y =>
    simp only at hq;cases hy:ρ y with
    | int k n =>
     simp only[hy]at hq;split at hq
     ·rename_i hn
      simp only[Option.some.injEq]at hq;subst hq;exact ⟨n,by simp [KL,hy],hn,rfl⟩
     ·cases hq
    | _=>simp [hy]at hq
  have ud : ∀ (y:Option B8) (q:Nat),(match y with|none=>some 0|some o=>match ρ o with | .int _ n=>if n=0 then some 0 else none|_=>none)=some q->KL ρ 0 y=some 0:=λ y q hq=>by
   cases y with
   | none=>rfl
   | some y =>
    simp only at hq;cases hy:ρ y with
    | int k n =>
     simp only[hy]at hq;split at hq
     ·rename_i hn
      subst hn;simp [KL,hy]
     ·cases hq
    | _=>simp [hy]at hq
  split at h
  ·rename_i l es hx
   split at h
   ·rename_i q1 q2 h1 h2
    split at h
    ·rename_i hq
     simp only[Option.some.injEq]at h;subst h;obtain ⟨n1,b1,c1,rfl⟩:=uc _ _ h1;obtain ⟨n2,b2,c2,c3,rfl⟩:=Ii _ _ _ h2;exact Un hm hs hok hx b1 b2 c1 (by omega) c3 hq.2
    ·cases h
   ·cases h
  ·rename_i hx
   split at h
   ·rename_i q1 q2 h1 h2
    simp only[Option.some.injEq]at h;subst h;exact Ul hm hs hok hx (ud _ _ h1) (ud _ _ h2)
   ·cases h
  ·rename_i s t z off len hx
   split at h
   ·rename_i q1 q2 h1 h2
    split at h
    ·rename_i hq
     simp only[Option.some.injEq]at h;subst h;obtain ⟨n1,b1,c1,rfl⟩:=uc _ _ h1;obtain ⟨n2,b2,c2,c3,rfl⟩:=Ii _ _ _ h2;exact Um hm hs hok hx b1 b2 c1 (by omega) c3 hq.2
    ·cases h
   ·cases h
  ·cases h
 | ext x i =>
  simp only[c7]at h;split at h
  ·rename_i vs hx
   simp only[Option.map_eq_some_iff]at h;obtain ⟨v,hv,rfl⟩:=h;exact Qd hm hs hok hx hv
  ·cases h
 | len x =>
  simp only[c7]at h;split at h
  ·rename_i n hn
   simp only[Option.some.injEq]at h;subst h;exact Ud hm hs hok hn
  ·cases h
 | mm mx xs =>
  simp only[c7]at h;split at h
  ·cases h
  ·rename_i v r hx
   simp only[Option.map_eq_some_iff]at h;obtain ⟨q,hq,rfl⟩:=h;exact Uh hm hs hok hx hq
 | app s a6 bytes x y =>
  simp only[c7]at h;split at h
  ·rename_i ys jy
   split at h
   ·rename_i hz
    split at h
    ·rename_i s' t z len hx
     split at h
     ·rename_i b hb
      split at h
      ·rename_i hn
       obtain ⟨n1,rfl,n3,n4,n5⟩:=hn;simp only[Option.some.injEq]at h;subst h;exact vU hm hs hok jy hz hx hb n1 n3 n4 n5
      ·cases h
     ·cases h
    ·rename_i hx
     split at h
     ·rename_i hn
      simp only[Option.some.injEq]at h;subst h;exact Qy hm hs hok jy hz hx hn.1 hn.2
     ·cases h
    ·cases h
   ·cases h
  ·cases h
 | iq a6 x y =>
  simp only[c7]at h;split at h
  ·rename_i s t z off len ys hx jy
   split at h
   ·rename_i b hb
    split at h
    ·rename_i hn
     obtain ⟨n1,rfl,n3,n4⟩:=hn;simp only[Option.some.injEq]at h;subst h;exact Qc hm hs hok jy n4 hx hb n1 n3
    ·cases h
   ·cases h
  ·cases h
 | call f xs =>
  simp only[c7]at h;split at h
  ·rename_i vs dw
   simp only[Option.map_eq_some_iff]at h;obtain ⟨r,hr,rfl⟩:=h;exact Rg hC hm hs hok (Zr dw) hr
  ·cases h
 | c8 f xs =>
  simp only[c7,Option.map_eq_some_iff]at h;obtain ⟨r,hr,rfl⟩:=h;exact vV hC hm hs hok hr
 | jz ne x =>
  simp only[c7]at h;split at h
  ·rename_i hx
   simp only[Option.some.injEq]at h;subst h;exact gM hm hs hok (b:=true) λ v hv=>by rw[hx]at hv;exact ⟨none,0,0,UU hv,rfl⟩
  ·rename_i b hx
   simp only[Option.some.injEq]at h;subst h;exact gM hm hs hok (b:=b) λ v hv=>by
    rw[hx]at hv;obtain ⟨ad,c,h1,h2⟩:=vB hv;exact ⟨ad,0,c,h1,h2⟩
  ·rename_i hx
   simp only[Option.some.injEq]at h;subst h;exact gM hm hs hok (b:=false) λ v hv=>by rw[hx]at hv;exact Sc hv
  ·rename_i hx
   simp only[Option.some.injEq]at h;subst h;exact gM hm hs hok (b:=false) λ v hv=>by rw[hx]at hv;exact Sb hv
  ·cases h
 | bad =>
  have h:(none:Option ED)=some E:=h;cases h
 | kj x =>
  simp only[c7]at h;split at h
  ·rename_i hx
   simp only[Option.some.injEq]at h;subst h;exact Uj hm hs hok hx
  ·cases h
 | bh x =>
  simp only[c7]at h;split at h
  ·rename_i hx
   simp only[Option.some.injEq]at h;subst h;exact Qa hm hs hok hx
  ·cases h
 | x9 s f xs =>
  simp only[c7,Option.map_eq_some_iff]at h;obtain ⟨p,hp,rfl⟩:=h;exact vV hC hm hs (Xa hok) (fO.1 hp m.own rfl)
 | il s a6 bytes x y =>
  simp only[c7]at h;split at h
  ·rename_i q ys hx hy
   split at h
   ·rename_i hn
    simp only[Option.some.injEq]at h;subst h;exact Qx hm hs hok (ys:=ys) (by rw[hy];rfl) hn.1 hx hn.2.1 hn.2.2.1 hn.2.2.2
   ·cases h
  ·cases h
 | gv s a6 bytes x y =>
  simp only[c7]at h;split at h
  ·rename_i k n hx hy
   split at h
   ·rename_i hn
    simp only[Option.some.injEq]at h;subst h;exact Qz hm hs hok hx hy hn.1 hn.2.1 hn.2.2
   ·cases h
  ·cases h
 | cr tb x =>
  simp only[c7]at h;split at h
  ·rename_i k n hx
   split at h
   ·rename_i h0
    split at h
    ·rename_i v hv
     simp only[Option.some.injEq]at h;subst h;exact Uk hm hs hok hx h0 hv
    ·cases h
   ·cases h
  ·cases h
 | jc p f xs =>
  simp only[c7,Option.map_eq_some_iff]at h;obtain ⟨cs,hcs,rfl⟩:=h;rw[hC.num];exact Uf hm hs hok hcs
 | l9 f xs =>
  simp only[c7]at h;split at h
  ·rename_i hq
   split at h
   ·rename_i r hr
    split at h
    ·rename_i hfl
     simp only[Option.some.injEq]at h;subst h;exact Px hC hm hs hok hq hr hfl
    ·cases h
   ·cases h
  ·cases h
 | o0 s f xs =>
  simp only[c7]at h;split at h
  ·rename_i vs dw
   simp only[Option.map_eq_some_iff]at h;obtain ⟨⟨z,es⟩,hr,rfl⟩:=h;exact Py hC hm hs hok (Zt dw) hr
  ·cases h
 | al s a6 bytes x y =>
  simp only[c7]at h;split at h
  ·rename_i l ys s' t z len hy hx
   split at h
   ·rename_i b hb
    split at h
    ·rename_i hn
     obtain ⟨rfl,hz,n1,rfl,n3,n4,n5⟩:=hn;simp only[Option.some.injEq]at h;subst h;have:=vU hm hs (Yb hok) (ys:=ys) (by rw[hy];rfl) hz hx hb n1 n3 n4 n5
     intro K Q hK;exact this K Q λ u m' h1 h2 h3 h4=>hK u m' h1 h2 h3 h4
    ·cases h
   ·cases h
  ·cases h
 | gu s n x v =>
  simp only[c7]at h;split at h
  ·rename_i s' t i j vs hx dw
   split at h
   ·rename_i hn
    obtain ⟨rfl,hn⟩:=hn;simp only[Option.map_eq_some_iff]at h;obtain ⟨l8,ho,rfl⟩:=h;have:=wB hm hs (Ajp hok) hx dw hn ho
    intro K Q hK;refine this K Q λ u m' h1 h2 h3 h4=>hK u m' ?_ h2 h3 h4
    rw[h1];exact (Ak2 ho).symm
   ·cases h
  ·cases h
 | n8 x xs =>
  simp only[c7]at h;split at h
  ·rename_i p f g cs hx
   split at h
   ·rename_i hg
    rw[hC.num]at hg;subst hg;split at h
    ·split at h
     ·rename_i vs dw
      simp only[Option.map_eq_some_iff]at h;obtain ⟨r,hr,rfl⟩:=h;exact Pw hC hm hs hok hx dw hr
     ·cases h
    ·simp only[Option.map_eq_some_iff]at h
     obtain ⟨r,hr,rfl⟩:=h;exact Pz hC hm hs hok hx hr
    ·cases h
   ·cases h
  ·cases h
end
end Go.Eng
