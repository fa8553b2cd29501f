/-
  Addresses, loads, stores, slices.
-/
import Derived.Test.YtfnglkabkfmjcaaGreatB1
import Derived.Laws.Slices
import Derived.Orders
set_option linter.unusedSimpArgs false
set_option linter.unusedVariables false
set_option linter.unnecessarySimpa false
namespace Go.e8
open Go.RowKit
section
variable {B:Nat} {S:Nat->Prop} {w0:World} {m:M}
variable {P:Program} {num:Nat->Nat} {o:Oper} {a:Act} {ρ:AQ->AV}
theorem kW {x:AV} {v:Value} (h:CV B S m x v) (h1:x ≠ .any) (h2 : ∀ cs,x ≠ .agg cs) (h3 : ∀ cs,x ≠ .j9 cs) (h4 : ∀ p f g cs,x ≠ .fn p f g cs:=by intros;simp):CC B S m x v:=by
 cases h with
 | any=>exact absurd rfl h1
 | j9 as=>exact absurd rfl (h3 as)
 | ca h=>cases h with
  | one h=>exact h
  | agg cs=>exact absurd rfl (h2 cs)
  | fn p f g cs=>exact absurd rfl (h4 p f g cs)
  | ve f g cs=>exact absurd rfl (h4 true f g cs)
theorem fY {s t i j:Nat} {v:Value} (h:CV B S m (.ptr s t i j) v) : ∃ ad,v = .pointer (some ad)/\t<m.own.k6 s /\ ∀ b,m.own.get s t=some b -> ∃ g,m.ν s t=some g/\ad=⟨g,i*b.c6+j,none⟩:=by
 cases kW h (by simp) (by simp) (by simp) with
 | rd h=>cases h
 | ptr s t i j ad ht h'=>exact ⟨ad,rfl,ht,h'⟩
theorem pX {cs:List AV} {v:Value} (h:CV B S m (.x7 cs) v) : ∃ (b o:Nat) (u:Nat->Value) (l:Bool),v = .pointer (some ⟨b,o,none⟩)/\(cs≠[]->safe B S m l b)/\(∀ j c,cs[j]? = some c->m.w.cell? ⟨b,o+j,none⟩=some (u j))/\(∀ j c,cs[j]? = some c->Rd m.w (safe B S m) c (u j)):=by
 cases kW h (by simp) (by simp) (by simp) with
 | rd h=>cases h
 | x7 _ b o u l h1 h2 h3=>exact ⟨b,o,u,l,rfl,h1,h2,h3⟩
theorem cR {s t z off len:Nat} {v:Value} (h:CV B S m (.row s t z off len) v) : ∃ (ad:Option Addr) (cap:Nat),v = .slice ad len cap/\t<m.own.k6 s/\0<z/\len<=cap/\(0<len->ad.isSome=true) /\
  ∀ b,m.own.get s t=some b->b.c6=z/\((len=0/\cap=0) \/ ∃ g arr e,m.ν s t=some g/\ad=some ⟨g,off*z,none⟩/\m.w.heap[g]? = some (.cells arr e (0,0))/\(off+cap)*z<=arr.size):=by
 cases kW h (by simp) (by simp) (by simp) with
 | rd h=>cases h
 | row s t z off len ad cap ht fg qj ha h'=>exact ⟨ad,cap,rfl,ht,fg,qj,ha,h'⟩
theorem kY {l:Bool} {es:List (List AV)} {v:Value} (h:CV B S m (.sl l es) v):Rd m.w (safe B S m) (.sl l es) v:=by
 cases kW h (by simp) (by simp) (by simp) with
 | rd h=>exact h
theorem Ahz (hm:BP B S w0 m) (hs:CW B S m ρ a.eval) {x':AQ} {off:Nat} (h:BD P num o.op (.a7 x' off)=true) {s t i j:Nat} (hx:ρ x' = .ptr s t i j):CZ B S w0 P o a m (.val (.ptr s t i (j+off))):=by
 obtain ⟨ty,x,f,fs,fd,inf,m5,h1,hu,hf,ho,hi,y7⟩:=Tf h;obtain ⟨ad,hv,ht,hb⟩:=fY (hx ▸ hs x x' h1);refine EF hm (u := .pointer (some (ad.add off))) ?_ (.ca (.one (.ptr s t i (j+off) _ ht λ b m6 => ?_)))
 ·simp [execOp,m5,hv,Instr.fieldAt,run_underlying hu,hf,Instr.sureAddr,fieldPlace,sizeOf,typeInfo,hi,y7,ho]
 ·obtain ⟨g,hg,rfl⟩:=hb b m6
  exact ⟨g,hg,by rw[HP];simp;omega⟩
theorem Ahy (hm:BP B S w0 m) (hs:CW B S m ρ a.eval) {x':AQ} {off:Nat} (h:BD P num o.op (.a7 x' off)=true) {cs:List AV} (hx:ρ x' = .x7 cs):CZ B S w0 P o a m (.val (.x7 (cs.drop off))):=by
 obtain ⟨ty,x,f,fs,fd,inf,m5,h1,hu,hf,ho,hi,y7⟩:=Tf h;obtain ⟨b,ob,u,l,hv,hR,hc,hr⟩:=pX (hx ▸ hs x x' h1);refine EF hm (u := .pointer (some ⟨b,ob+off,none⟩)) ?_ (.ca (.one (.x7 _ b (ob+off) (λ j=>u (off+j)) l (λ m9=>hR (λ e=>m9 (by simp [e]))) (λ j c hj => ?_) (λ j c hj => ?_))))
 ·simp [execOp,m5,hv,Instr.fieldAt,run_underlying hu,hf,Instr.sureAddr,fieldPlace,sizeOf,typeInfo,hi,y7,ho,HP]
 ·rw[List.getElem?_drop]at hj
  rw[Nat.add_assoc];exact hc _ c hj
 ·rw[List.getElem?_drop]at hj
  exact hr _ c hj
theorem iD {agg:Bool} {cs:List AV} {v:AV} (h:JC agg cs=some v) {vs:List Value} (hc:CL B S m cs vs):CV B S m v (if agg then .agg vs.toArray else vs.getD 0 undef)/\(agg=false->vs.length=1):=by
 unfold JC at h;cases agg with
 | true =>
  obtain rfl:AV.agg cs=v:=by simpa using h
  exact ⟨.ca (.agg cs vs hc),by simp⟩
 | false =>
  simp only[Bool.false_eq_true,if_false]at h;split at h
  ·rename_i c
   obtain rfl:c=v:=by simpa using h
   obtain ⟨u,hu,aw⟩:=cQ hc (j:=0) (c:=c) rfl;refine ⟨?_,λ_=>by rw[<-hc.1];rfl⟩;simp only[Bool.false_eq_true,if_false,List.getD,hu,Option.getD_some];exact .ca (.one aw)
  ·cases h
theorem Vh (t:TypeId) (agg:Bool) (inf:TypeInfo) (iv : ∀ w,(isAgg t).run P w = .ok agg w) (hi:P.info? t=some inf) (vs:List Value) (off n:Nat) (hn:inf.size=n) (hle:off+n<=vs.length) (h1:agg=false->n=1) (w:World) :
  (Go.part t vs.toArray off).run P w = .ok (if agg then .agg ((vs.drop off).take n).toArray else ((vs.drop off).take n).getD 0 undef) w:=by
 unfold Go.part;rw[Sem.run_bind,iv w];cases agg with
 | true=>simp [sizeOf,typeInfo,hi,hn,List.extract_eq_take_drop]
 | false =>
  have m7:off<vs.length:=by have:=h1 rfl;omega
  simp [m7,h1 rfl]
theorem AhA (hm:BP B S w0 m) (hs:CW B S m ρ a.eval) {x':AQ} {off n:Nat} {agg:Bool} (h:BD P num o.op (.qa x' off n agg)=true) {cs ds:List AV} {v:AV} (hx:ρ x' = .agg cs) (hp:part cs off n=some ds) (hv:JC agg ds=some v) :
  CZ B S w0 P o a m (.val v):=by
 obtain ⟨ty,x,f,fs,fd,inf,m5,h1,hu,hf,ho,hi,y7,iv,h0⟩:=Ala h;obtain ⟨vs,ck,o4⟩:=fX (hx ▸ hs x x' h1);unfold e8.part at hp;split at hp
 ·rename_i hle
  obtain rfl:(cs.drop off).take n=ds:=by simpa using hp
  obtain ⟨af,ku⟩:=iD hv (yF o4 off n);have hl:=o4.1;have ua:agg=false->n=1:=λ e=>by have:=ku e;simp at this;omega
  refine EF hm ?_ af;simp only[execOp,m5,Sem.run_bind,Instr.field,run_underlying hu,Result.andThen_ok,hf,ck,asAgg,Sem.run_pure,ho];rw[Vh fd.type agg inf iv hi vs off n y7 (by omega) ua];rfl
 ·cases hp
theorem AhF (hm:BP B S w0 m) (hs:CW B S m ρ a.eval) {len c6:Nat} {agg:Bool} {x' i':AQ} (h:BD P num o.op (.idx len c6 agg x' i')=true) {k:IntKind} {n:Int} {cs ds:List AV} {v:AV} (s9:ρ i' = .int k n) (hx:ρ x' = .agg cs) (h0:0<=n) (hn:n<len)
  (hp:part cs (n.toNat*c6) c6=some ds) (hv:JC agg ds=some v):CZ B S w0 P o a m (.val v):=by
 obtain ⟨ty,x,i,e,inf,m5,h1,h2,hu,hi,y7,iv⟩:=Alb h;obtain ⟨vs,ck,o4⟩:=fX (hx ▸ hs x x' h1);have vi:=HB (s9 ▸ hs i i' h2);unfold e8.part at hp;split at hp
 ·rename_i hle
  obtain rfl:(cs.drop (n.toNat*c6)).take c6=ds:=by simpa using hp
  obtain ⟨af,ku⟩:=iD hv (yF o4 (n.toNat*c6) c6);have hl:=o4.1;have ua:agg=false->c6=1:=λ e=>by have:=ku e;simp at this;omega
  refine EF hm ?_ af;simp only[execOp,m5,Sem.run_bind,Instr.index,vi,asIntOf,Sem.run_pure,run_underlying hu,Result.andThen_ok,ck];rw[if_pos ⟨h0,hn⟩];simp only[Sem.run_bind,sizeOf,typeInfo,run_program,hi,Sem.run_pure,Result.andThen_ok,y7];rw[Vh e agg inf iv hi vs (n.toNat*c6) c6 y7 (by omega) ua];rfl
 ·cases hp
theorem AhB (hm:BP B S w0 m) (hs:CW B S m ρ a.eval) {len c6:Nat} {x' i':AQ} (h:BD P num o.op (.a5 (some len) c6 x' i')=true) {k:IntKind} {n:Int} {s t i0 j:Nat} (s9:ρ i' = .int k n) (hx:ρ x' = .ptr s t i0 j) (h0:0<=n) (hn:n<len) :
  CZ B S w0 P o a m (.val (.ptr s t i0 (j+n.toNat*c6))):=by
 obtain ⟨ty,x,i,e,inf,m5,h1,h2,hi,y7,db⟩:=mH h;rcases db with ⟨nr,hl,hu,m7⟩|⟨hl,_⟩
 ·obtain rfl:len=nr:=by simpa using hl
  obtain ⟨ad,hv,ht,hb⟩:=fY (hx ▸ hs x x' h1);have vi:=HB (s9 ▸ hs i i' h2);refine EF hm (u := .pointer (some (ad.add (n.toNat*c6)))) ?_ (.ca (.one (.ptr s t i0 (j+n.toNat*c6) _ ht λ b m6 => ?_)))
  ·simp [execOp,m5,hv,vi,Instr.indexAt,asIntOf,run_underlying hu,Instr.sureAddr,sizeOf,typeInfo,hi,y7,h0,hn]
  ·obtain ⟨g,hg,rfl⟩:=hb b m6
   exact ⟨g,hg,by rw[HP];simp;omega⟩
 ·cases hl
theorem AhC (hm:BP B S w0 m) (hs:CW B S m ρ a.eval) {len c6:Nat} {x' i':AQ} (h:BD P num o.op (.a5 (some len) c6 x' i')=true) {k:IntKind} {n:Int} {cs:List AV} (s9:ρ i' = .int k n) (hx:ρ x' = .x7 cs) (h0:0<=n) (hn:n<len) :
  CZ B S w0 P o a m (.val (.x7 (cs.drop (n.toNat*c6)))):=by
 obtain ⟨ty,x,i,e,inf,m5,h1,h2,hi,y7,db⟩:=mH h;rcases db with ⟨nr,hl,hu,m7⟩|⟨hl,_⟩
 ·obtain rfl:len=nr:=by simpa using hl
  obtain ⟨b,ob,u,l,hv,hR,hc,hr⟩:=pX (hx ▸ hs x x' h1);have vi:=HB (s9 ▸ hs i i' h2);refine EF hm (u := .pointer (some ⟨b,ob+n.toNat*c6,none⟩)) ?_ (.ca (.one (.x7 _ b (ob+n.toNat*c6) (λ j=>u (n.toNat*c6+j)) l (λ m9=>hR (λ e=>m9 (by simp [e]))) (λ j c hj => ?_) (λ j c hj => ?_))))
  ·simp [execOp,m5,hv,vi,Instr.indexAt,asIntOf,run_underlying hu,Instr.sureAddr,sizeOf,typeInfo,hi,y7,h0,hn,HP]
  ·rw[List.getElem?_drop]at hj
   rw[Nat.add_assoc];exact hc _ c hj
  ·rw[List.getElem?_drop]at hj
   exact hr _ c hj
 ·cases hl
theorem Vf (ty e:TypeId) (inf:TypeInfo) (hu:P.underlying ty=some (.slice e)) (hi:P.info? e=some inf) (ad:Addr) (len cap:Nat) (k:IntKind) (n:Int) (h0:0<=n) (hn:n<len) (w:World) :
  (Instr.indexAt ty (.slice (some ad) len cap) (.int k n)).run P w = .ok (.pointer (some (ad.add (n.toNat*inf.size)))) w:=by
 simp [Instr.indexAt,asIntOf,run_underlying hu,sizeOf,typeInfo,hi,h0,hn]
theorem AhD (hm:BP B S w0 m) (hs:CW B S m ρ a.eval) {c6:Nat} {x' i':AQ} (h:BD P num o.op (.a5 none c6 x' i')=true) {k:IntKind} {n:Int} {s t z off len:Nat} (s9:ρ i' = .int k n) (hx:ρ x' = .row s t z off len) (h0:0<=n) (hn:n<len) (hz:z=c6) :
  CZ B S w0 P o a m (.val (.ptr s t (off+n.toNat) 0)):=by
 obtain ⟨ty,x,i,e,inf,m5,h1,h2,hi,y7,db⟩:=mH h;rcases db with ⟨_,hl,_⟩|⟨_,hu,_⟩
 ·cases hl
 ·obtain ⟨ad,cap,hv,ht,fg,qj,ha,hb⟩:=cR (hx ▸ hs x x' h1)
  have vi:=HB (s9 ▸ hs i i' h2);obtain ⟨Eh,rfl⟩:=Option.isSome_iff_exists.1 (ha (by omega));refine EF hm (u := .pointer (some (Eh.add (n.toNat*c6)))) ?_ (.ca (.one (.ptr s t (off+n.toNat) 0 _ ht λ b m6 => ?_)))
  ·simp only[execOp,m5,hv,vi,Sem.run_bind]
   rw[Vf ty e inf hu hi Eh len cap k n h0 hn,y7];rfl
  ·obtain ⟨ti,db⟩:=hb b m6
   rcases db with ⟨nn,_⟩|⟨g,arr,e',hg,ni,_,_⟩
   ·omega
   ·obtain rfl:Eh=⟨g,off*z,none⟩:=by simpa using ni
    exact ⟨g,hg,by rw[HP,ti,<-hz,Nat.add_mul];rfl⟩
theorem AhE (hm:BP B S w0 m) (hs:CW B S m ρ a.eval) {c6:Nat} {x' i':AQ} (h:BD P num o.op (.a5 none c6 x' i')=true) {k:IntKind} {n:Int} {l:Bool} {es:List (List AV)} {cs:List AV} (s9:ρ i' = .int k n) (hx:ρ x' = .sl l es) (h0:0<=n) (hn:es[n.toNat]? = some cs) (hz:cs.length=c6) :
  CZ B S w0 P o a m (.val (.x7 cs)):=by
 obtain ⟨ty,x,i,e,inf,m5,h1,h2,hi,y7,db⟩:=mH h;rcases db with ⟨_,hl,_⟩|⟨_,hu,_⟩
 ·cases hl
 ·have og:=kY (hx ▸ hs x x' h1)
  have vi:=HB (s9 ▸ hs i i' h2);have m7:n.toNat<es.length:=(zS hn).1;generalize ck:a.eval x=v at og;cases og with
  | kz=>simp at m7
  | sl _ _ b ob z7 cap u m9 hp hR bj jd hc hr =>
   have Iq:z7=c6:=by
    rw[<-hz];exact (jd cs (zM hn)).symm
   subst Iq;refine EF hm (u := .pointer (some ⟨b,ob+n.toNat*z7,none⟩)) ?_ (.ca (.one (.x7 _ b (ob+n.toNat*z7) (u n.toNat) l (λ_=>hR) (λ j c hj => ?_) (λ j c hj=>hr _ cs hn j c hj))))
   ·simp only[execOp,m5,ck,vi,Sem.run_bind]
    rw[Vf ty e inf hu hi ⟨b,ob,none⟩ es.length cap k n h0 (by omega),y7,HP];rfl
   ·rw[Nat.add_assoc]
    exact hc _ cs hn j c hj
end
end Go.e8
namespace Go.e8
open Go.RowKit
section
variable {B:Nat} {S:Nat->Prop} {w0:World} {m:M}
variable {P:Program} {num:Nat->Nat} {o:Oper} {a:Act} {ρ:AQ->AV}
theorem uR (t:TypeId) (agg:Bool) (n:Nat) (iv : ∀ w,(isAgg t).run P w = .ok agg w) (hn:if agg then ∃ i,P.info? t=some i/\i.size=n else n=1) (ad:Addr) (vs:List Value) (hl:vs.length=n) (w:World)
  (hc : ∀ q v,vs[q]? = some v->w.cell? (ad.add q)=some v):(Instr.loadAt t (.pointer (some ad))).run P w = .ok (if agg then .agg vs.toArray else vs.getD 0 undef) w:=by
 unfold Instr.loadAt loadVar;simp only[Instr.sureAddr,Sem.run_bind,Sem.run_pure,Result.andThen_ok,iv w];cases agg with
 | true =>
  simp only[if_true]at hn;obtain ⟨i,hi,hs⟩:=hn;have:=run_loadCells_list (P:=P) w ad vs hc
  simp [sizeOf,typeInfo,hi,hs,<-hl,this]
 | false =>
  simp only[Bool.false_eq_true,if_false]at hn ⊢;have m7:0<vs.length:=by omega
  have h0:=hc 0 vs[0] (zE m7);have zk:w.cell? ad=some vs[0]:=by simpa [Addr.add] using h0
  simp [load,Sem.run,zk,m7]
theorem Xn (hm:BP B S w0 m) {s t i j n:Nat} {cs:List AV} (h:m.own.sf s t i j n=some cs) : ∃ b g arr e,m.own.get s t=some b/\(0<n->m.ν s t=some g/\m.w.heap[g]? = some (.cells arr e (0,0))) /\
  ∃ vs:List Value,vs.length=n/\CL B S m cs vs /\ ∀ q v,vs[q]? = some v->arr[i*b.c6+j+q]? = some v:=by
 unfold AH.sf at h;cases hb:m.own.get s t with
 | none=>simp [hb]at h
 | some b =>
  simp only[hb]at h;cases he:b.es[i]? with
  | none=>simp [he]at h
  | some ds =>
   simp only[he,part]at h;split at h
   ·rename_i hle
    obtain rfl:(ds.drop j).take n=cs:=by simpa using h
    obtain ⟨hz,fr⟩:=hm.j5 s t b hb;cases hν:m.ν s t with
    | none =>
     rw[hν]at fr;rw[fr]at he;simp at he
    | some g =>
     rw[hν]at fr;obtain ⟨hB,arr,e,hh,aw⟩:=fr;have y7 : ∀ q,q<n -> ∃ u,arr[i*b.c6+j+q]? = some u:=λ q hq=>by
      have m7:j+q<ds.length:=by omega
      obtain ⟨u,hu,_⟩:=aw i ds he (j+q) ds[j+q] (zE m7);exact ⟨u,by rw[<-hu];congr 1;omega⟩
     refine ⟨b,g,arr,e,rfl,λ_=>⟨rfl,hh⟩,(arr.toList.drop (i*b.c6+j)).take n,?_,⟨?_,?_⟩,?_⟩
     ·rw[List.length_take,List.length_drop]
      rcases Nat.eq_zero_or_pos n with h0|h0
      ·omega
      ·obtain ⟨u,hu⟩:=y7 (n-1) (by omega)
       have:=(Array.getElem?_eq_some_iff.1 hu).1
       simp;omega
     ·rw[List.length_take,List.length_take,List.length_drop,List.length_drop]
      rcases Nat.eq_zero_or_pos n with h0|h0
      ·omega
      ·obtain ⟨u,hu⟩:=y7 (n-1) (by omega)
       have:=(Array.getElem?_eq_some_iff.1 hu).1
       simp;omega
     ·intro q c v hq hv
      rw[List.getElem?_take]at hq hv;split at hq
      ·rename_i Hr
       rw[if_pos Hr]at hv;rw[List.getElem?_drop]at hq hv;obtain ⟨u,hu,hc⟩:=aw i ds he (j+q) c hq;have:some u=some v:=by
        rw[<-hu,<-hv];simp only[Array.getElem?_toList];congr 1;omega
       obtain rfl:u=v:=by simpa using this
       exact hc
      ·cases hq
     ·intro q v hv
      rw[List.getElem?_take]at hv;split at hv
      ·rw[List.getElem?_drop]at hv
       simpa using hv
      ·cases hv
   ·cases h
theorem kQ {w:World} {g p:Nat} {arr:Array Value} {e:TypeId} (h:w.heap[g]? = some (.cells arr e (0,0))):w.cell? ⟨g,p,none⟩=arr[p]? := by
 simp [World.cell?,h]
theorem AhG (hm:BP B S w0 m) (hs:CW B S m ρ a.eval) {agg:Bool} {n:Nat} {x':AQ} (h:BD P num o.op (.ld agg n x')=true) {s t i j:Nat} {cs:List AV} {v:AV} (hx:ρ x' = .ptr s t i j) (hl:m.own.sf s t i j n=some cs) (hv:JC agg cs=some v) :
  CZ B S w0 P o a m (.val v):=by
 obtain ⟨ty,x,m5,h1,iv,hn⟩:=Tg h;obtain ⟨ad,ck,ht,hb⟩:=fY (hx ▸ hs x x' h1);obtain ⟨b,g,arr,e,q6,hg,vs,mn,o4,jo⟩:=Xn hm hl;obtain ⟨af,_⟩:=iD hv o4;refine EF hm ?_ af;simp only[execOp,m5,Sem.run_bind,ck];rw[uR ty agg n iv hn ad vs mn m.w (λ q u hq => ?_)]
 ·rfl
 ·have m7:q<vs.length:=(zS hq).1
  obtain ⟨Ac,lk⟩:=hg (by omega);obtain ⟨g',ga,rfl⟩:=hb b q6;obtain rfl:g=g':=by rw[Ac]at ga;simpa using ga
  rw[HP,kQ lk];exact jo q u hq
theorem Rs (hm:BP B S w0 m) (hs:CW B S m ρ a.eval) {agg:Bool} {n:Nat} {x':AQ} (h:BD P num o.op (.ld agg n x')=true) {cs ds:List AV} {v:AV} (hx:ρ x' = .x7 cs) (hl:part cs 0 n=some ds) (hv:JC agg ds=some v) :
  CZ B S w0 P o a m (.val v):=by
 obtain ⟨ty,x,m5,h1,iv,hn⟩:=Tg h;obtain ⟨b,ob,u,l,ck,hR,hc,hr⟩:=pX (hx ▸ hs x x' h1);unfold e8.part at hl;split at hl
 ·rename_i hle
  obtain rfl:(cs.drop 0).take n=ds:=by simpa using hl
  have o4:CL B S m ((cs.drop 0).take n) ((List.range n).map u):=by
   refine ⟨by simp;omega,λ q c v' hq na => ?_⟩;simp only[List.drop_zero,List.getElem?_take]at hq;split at hq
   ·rename_i Hr
    simp [Hr]at na;subst na;exact .rd (hr q c hq)
   ·cases hq
  obtain ⟨af,_⟩:=iD hv o4;refine EF hm ?_ af;simp only[execOp,m5,Sem.run_bind,ck];rw[uR ty agg n iv hn ⟨b,ob,none⟩ ((List.range n).map u) (by simp) m.w (λ q w' hq => ?_)]
  ·rfl
  ·have Hr:q<n:=by have:=(zS hq).1;simpa using this
   simp [Hr]at hq;subst hq;rw[HP];exact hc q cs[q] (zE (by omega))
 ·cases hl
theorem vI {α:Type} (l:List α) (off:Nat) (vs:List α) (h:off+vs.length<=l.length) (q:Nat):(l.take off++vs++l.drop (off+vs.length))[q]? = if q<off then l[q]? else if q<off+vs.length then vs[q-off]? else l[q]? := by
 rw[List.append_assoc];by_cases h1:q<off
 ·rw[if_pos h1,List.getElem?_append_left (by simp;omega),List.getElem?_take,if_pos h1]
 ·rw[if_neg h1,List.getElem?_append_right (by simp;omega)]
  have e1:(l.take off).length=off:=by simp;omega
  rw[e1];by_cases h2:q<off+vs.length
  ·rw[if_pos h2,List.getElem?_append_left (by omega)]
  ·rw[if_neg h2,List.getElem?_append_right (by omega),List.getElem?_drop]
   congr 1;omega
theorem xL (hm:BP B S w0 m) {g:Nat} (hB:B<=g) (arr:Array Value):Below B w0 (m.w.setRow g arr) :=
 hm.below.trans ⟨rfl,rfl,rfl,by simp,λ k hk=>setRow_other _ _ _ _ (by omega)⟩
theorem Rx (hm:BP B S w0 m) (hs:CW B S m ρ a.eval) {n:Nat} {x' v':AQ} (h:BD P num o.op (.st n x' v')=true) {s t i j:Nat} {vs:List AV} {n0:AH} (hx:ρ x' = .ptr s t i j) (hv:cellsOf (ρ v')=some vs) (hn:vs.length=n) (l9:m.own.nv s t i j vs=some n0) :
  CZ B S w0 P o a m (.fk (.j9 []) n0):=by
 obtain ⟨ty,x,v,inf,m5,h1,h2,hi,y7⟩:=Alk h;obtain ⟨ad,ck,ht,hb⟩:=fY (hx ▸ hs x x' h1);have o4:=kX (hs v v' h2) hv;unfold AH.nv at l9;cases q6:m.own.get s t with
 | none=>simp [q6]at l9
 | some b =>
  simp only[q6]at l9;cases he:b.es[i]? with
  | none=>simp [he]at l9
  | some cs =>
   simp only[he]at l9;split at l9
   ·rename_i hle
    obtain rfl:=Option.some.inj l9;obtain ⟨hz,fr⟩:=hm.j5 s t b q6;obtain ⟨g,hg,rfl⟩:=hb b q6;rw[hg]at fr;obtain ⟨hB,arr,e,hh,aw⟩:=fr;have Mf:cs.length=b.c6:=hz cs (zM he);have hlen:(a.eval v).cells.toList.length=vs.length:=o4.1.symm;have ak:i<b.es.length:=(zS he).1;have Dr:i*b.c6+j+vs.length<=arr.size:=by
     rcases Nat.eq_zero_or_pos vs.length with h0|h0
     ·rcases Nat.eq_zero_or_pos j with hj0|hj0
      ·rw[h0,hj0]
       rcases Nat.eq_zero_or_pos i with tl|tl
       ·rw[tl];omega
       ·rcases Nat.eq_zero_or_pos b.c6 with fg|fg
        ·rw[fg];omega
        ·have hi1:i-1<b.es.length:=by omega
         have mf:(b.es[i-1]).length=b.c6:=hz _ (List.getElem_mem hi1);obtain ⟨u,hu,_⟩:=aw (i-1) _ (zE hi1) (b.c6-1) _ (zE (by omega));have:=(Array.getElem?_eq_some_iff.1 hu).1
         have e1:(i-1)*b.c6+b.c6=i*b.c6:=by
          rw[<-Nat.succ_mul];congr 1;omega
         omega
      ·obtain ⟨u,hu,_⟩:=aw i cs he (j-1) cs[j-1] (zE (by omega))
       have:=(Array.getElem?_eq_some_iff.1 hu).1
       omega
     ·obtain ⟨u,hu,_⟩:=aw i cs he (j+vs.length-1) cs[j+vs.length-1] (zE (by omega))
      have:=(Array.getElem?_eq_some_iff.1 hu).1
      omega
    have ku:=Ago o4;have xu:=run_storeCells_at (P:=P) g (i*b.c6+j) e (a.eval v).cells.toList 0 arr m.w hh (by rw[hlen];omega) ku;generalize ou:(arr.toList.take (i*b.c6+j+0)++(a.eval v).cells.toList++arr.toList.drop (i*b.c6+j+0+(a.eval v).cells.toList.length)).toArray=z0 at xu;have Bd : ∀ p,z0[p]? = if p<i*b.c6+j then arr[p]? else if p<i*b.c6+j+vs.length then (a.eval v).cells.toList[p-(i*b.c6+j)]? else arr[p]? := λ p=>by
     rw[<-ou];simp only[Nat.add_zero,List.getElem?_toArray];rw[vI _ _ _ (by rw[hlen];simpa using Dr),hlen];simp only[Array.getElem?_toList]
    have ru:z0.size=arr.size:=by
     rw[<-ou];simp [hlen];have:=hlen
     simp at this;omega
    obtain ⟨k1,k2⟩:=AnI hm s t b ⟨b.c6,b.es.set i (splice cs j vs)⟩ q6 g hg arr z0 e hh rfl (λ y hy=>by
      rcases List.mem_or_eq_of_mem_set hy with hy|hy
      ·exact hz y hy
      ·rw[hy,<-Mf];simp [splice];omega) ru
     (λ i' fx s9 q c hq=>by
      show ∃ u,z0[i'*b.c6+q]? = some u/\_;change (b.es.set i (splice cs j vs))[i']? = some fx at s9;by_cases hii:i'=i
      ·subst hii
       rw[List.getElem?_set_self ak]at s9;obtain rfl:splice cs j vs=fx:=by simpa using s9
       unfold splice at hq;rw[vI _ _ _ hle]at hq;rw[Bd];by_cases Ah:q<j
       ·rw[if_pos Ah]at hq
        rw[if_pos (by omega)];exact aw i' cs he q c hq
       ·rw[if_neg Ah]at hq
        rw[if_neg (by omega)];by_cases Fa:q<j+vs.length
        ·rw[if_pos Fa]at hq
         rw[if_pos (by omega)];obtain ⟨u,hu,ij⟩:=cQ o4 hq;exact ⟨u,by rw[<-hu];congr 1;omega,ij⟩
        ·rw[if_neg Fa]at hq
         rw[if_neg (by omega)];exact aw i' cs he q c hq
      ·rw[List.getElem?_set_ne (by omega)]at s9
       have yu:q<b.c6:=by
        rw[<-hz fx (zM s9)];exact (zS hq).1
       obtain ⟨u,hu,ij⟩:=aw i' fx s9 q c hq;refine ⟨u,?_,ij⟩;rw[Bd,<-hu];rcases Nat.lt_or_gt_of_ne hii with m7|ui
       ·have:(i'+1)*b.c6<=i*b.c6:=Nat.mul_le_mul_right _ m7
        rw[Nat.succ_mul]at this;rw[if_pos (by omega)]
       ·have:(i+1)*b.c6<=i'*b.c6:=Nat.mul_le_mul_right _ ui
        rw[Nat.succ_mul]at this;rw[if_neg (by omega),if_neg (by omega)])
     (m.w.setRow g z0) (xL hm hB z0) (by simp) (λ k hk=>setRow_other _ _ _ _ hk) (setRow_heap _ _ _ _ _ _ hh)
    intro K Q hK;refine AnY (w':=m.w.setRow g z0) ?_ (hK undef ⟨m.ν,_,m.w.setRow g z0⟩ rfl k1 k2 Sw);have Pb:(a.eval v).cells.size=inf.size:=by rw[y7,<-hn,<-hlen];simp
    simp only[execOp,m5,ck,Instr.storeAt,storeVar,Instr.sureAddr,Sem.run_bind,Sem.run_pure,Result.andThen_ok,sizeOf,typeInfo,run_program,hi];rw[if_neg (by simpa using Pb)];simp only[Sem.run_bind,Sem.run_pure,Result.andThen_ok,xu]
   ·cases l9
theorem AhI (hm:BP B S w0 m) (hs:CW B S m ρ a.eval) {s c6 bytes:Nat} {zero:List AV} {l' c':AQ} (h:BD P num o.op (.mk s c6 bytes zero l' c')=true) {kl kc:IntKind} {l c:Int} (hl:ρ l' = .int kl l) (hc:ρ c' = .int kc c) (h0:0<=l) (qj:l<=c) (hb:c*bytes<=EB) (Ek:c<=9223372036854775807) (hz:zero.length=c6) :
  CZ B S w0 P o a m (.new s ⟨c6,List.replicate l.toNat zero⟩ (λ t => .row s t c6 0 l.toNat)):=by
 obtain ⟨ty,lx,cx,e,inf,z,m5,h1,h2,hu,hi,y7,qe,fg,jd,m9⟩:=Ale h;have el:=HB (hl ▸ hs lx l' h1);have ec:=HB (hc ▸ hs cx c' h2);have o4:CL B S m zero z.cells.toList:=cX jd;have hzs:z.cells.size=c6:=by rw[<-hz,o4.1];simp
 refine Rw hm s c6 l.toNat c.toNat _ (madeCells z.cells (c.toNat*inf.size)) e (Nat.pos_of_ne_zero m9) (by omega) (by rw[size_madeCells,y7];exact Nat.le_refl _) (λ x hx=>by rw[(List.mem_replicate.1 hx).2,hz]) (λ i cs s9 j c1 hj => ?_) ?_
 ·rw[List.getElem?_replicate]at s9
  split at s9
  ·rename_i ak
   obtain rfl:zero=cs:=by simpa using s9
   obtain ⟨u,nq,ij⟩:=cQ o4 hj;refine ⟨u,?_,ij⟩;have dm:j<c6:=by rw[<-hz];exact (zS hj).1
   have m7:i*c6+j<c.toNat*inf.size:=by
    rw[y7];have h3:(i+1)*c6<=c.toNat*c6:=Nat.mul_le_mul_right _ (by omega);rw[Nat.succ_mul]at h3;omega
   have Nn:(i*c6+j)%z.cells.size=j:=by rw[hzs,Nat.add_comm,Nat.add_mul_mod_self_right,Nat.mod_eq_of_lt dm]
   have Ff:z.cells[j]? = some u:=by simpa using nq
   have hjs:j<z.cells.size:=(Array.getElem?_eq_some_iff.1 Ff).1;have lq:z.cells[j]=u:=(Array.getElem?_eq_some_iff.1 Ff).2;simp [madeCells,m7,Nn,hjs,lq]
  ·cases s9
 ·have:=run_make (P:=P) m.w ty e inf z hu hi fg kl kc l c h0 qj (by rw[qe,Int.mul_comm];simp only[EB]at hb;omega) Ek
  simp only[execOp,m5,el,ec,Sem.run_bind,this,Result.andThen_ok,Sem.run_pure]
theorem Ahx (hm:BP B S w0 m) (hs:CW B S m ρ a.eval) {x':AQ} {i:Nat} (h:BD P num o.op (.ext x' i)=true) {vs:List AV} {v:AV} (hx:ρ x' = .j9 vs) (hv:vs[i]? = some v):CZ B S w0 P o a m (.val v):=by
 obtain ⟨x,m5,h1⟩:=Ak9 h;obtain ⟨us,ck,hl,hc⟩:=pZ (hx ▸ hs x x' h1);have m7:i<us.length:=by rw[<-hl];exact (zS hv).1
 refine EF hm (u:=us[i]) ?_ (.ca (hc i v us[i] hv (zE m7)));simp [execOp,m5,ck,Instr.extract,m7]
theorem AhH (hm:BP B S w0 m) (hs:CW B S m ρ a.eval) {x':AQ} (h:BD P num o.op (.len x')=true) {n:Nat} (hx:YP (ρ x')=some n):CZ B S w0 P o a m (.val (.int .i64 n)):=by
 obtain ⟨x,t,e,m5,h1,hu⟩:=Ald h;have af:=hs x x' h1;obtain ⟨ad,cap,ck⟩ : ∃ ad cap,a.eval x = .slice ad n cap:=by
  generalize ρ x'=av at *;cases av with
  | sl l es =>
   have hr:=kY af;simp only[YP,Option.some.injEq]at hx;subst hx;generalize a.eval x=v at *;cases hr with
   | kz=>exact ⟨_,_,rfl⟩
   | sl=>exact ⟨_,_,rfl⟩
  | row s t z off len =>
   obtain ⟨ad,cap,hv,_⟩:=cR af;simp only[YP,Option.some.injEq]at hx;subst hx;exact ⟨ad,cap,hv⟩
  | nil =>
   simp only[YP,Option.some.injEq]at hx;subst hx;exact ⟨_,_,ZH af⟩
  | _=>simp [YP]at hx
 refine EF hm (u := .int .i64 n) ?_ (YS _ _);simp [execOp,m5,resolve,invoke,builtin,ck,Builtin.len_,run_underlying hu,goInt]
theorem Ahv (hm:BP B S w0 m) (hs:CW B S m ρ a.eval) {x':AQ} (h:BD P num o.op (.gf x')=true) (hx:ρ x' = .nil):CZ B S w0 P o a m (.val (.int .i64 0)):=by
 obtain ⟨x,t,e,m5,h1,hu⟩:=Ak7 h;have ck:=ZH (hx ▸ hs x x' h1);refine EF hm (u := .int .i64 0) ?_ (YS _ _);simp [execOp,m5,resolve,invoke,builtin,ck,Builtin.cap_,run_underlying hu,goInt]
theorem aT (hs:CW B S m ρ a.eval) : ∀ {xs:List Operand} {ys:List AQ},EH xs ys=true->xs.length=ys.length /\ ∀ (j:Nat) (x:Operand) (y:AQ),xs[j]? = some x->ys[j]? = some y->CV B S m (ρ y) (a.eval x)
 | [],[],_=>⟨rfl,λ j x y h=>by simp at h⟩
 | x::r,y::l,h=>by
  simp only[EH,Bool.and_eq_true]at h;obtain ⟨ih1,qo⟩:=aT hs h.2;refine ⟨by simp [ih1],λ j x' y' hx hy => ?_⟩;cases j with
  | zero=>simp at hx hy;subst hx hy;exact hs _ _ h.1
  | succ j=>exact qo j x' y' (by simpa using hx) (by simpa using hy)
 | [],_::_,h=>by simp [EH]at h
 | _::_,[],h=>by simp [EH]at h
theorem Vg (mx:Bool) (hs:CW B S m ρ a.eval) (w:World) : ∀ (xs:List Operand) (ys:List AQ) (v:AV) (u:Value) (r:AV),EH xs ys=true->CV B S m v u->PM mx v (ys.map ρ)=some r->(∃ k n,v = .int k n) -> ∃ k n,r = .int k n /\
  ((xs.map a.eval).foldlM (if mx then Builtin.max2 else Builtin.min2) u).run P w = .ok (.int k n) w
 | [],[],v,u,r,_,hc,hm,⟨k,n,hv⟩=>by
  simp only[List.map_nil,PM,Option.some.injEq]at hm;subst hm hv;obtain rfl:=HB hc;exact ⟨k,n,rfl,by simp⟩
 | x::xr,y::yr,v,u,r,he,hc,hm,⟨k,n,hv⟩=>by
  simp only[EH,Bool.and_eq_true]at he;simp only[List.map_cons,PM]at hm;have hx:=hs x y he.1;subst hv;obtain rfl:=HB hc;cases hy:ρ y with
  | int k' n' =>
   rw[hy]at hx hm;have hxe:=HB hx;simp only[YT]at hm;obtain ⟨k2,n2,rfl,h2⟩:=Vg mx hs w xr yr _ (.int k (if mx then (if n'>n then n' else n) else (if n'<n then n' else n))) r he.2 (YS _ _) hm ⟨_,_,rfl⟩;refine ⟨k2,n2,rfl,?_⟩;simp only[List.map_cons,List.foldlM_cons,Sem.run_bind,hxe];cases mx
   ·simpa [Builtin.min2] using h2
   ·simpa [Builtin.max2] using h2
  | _=>rw[hy]at hm;simp [YT]at hm
 | [],_::_,_,_,_,he,_,_,_=>by simp [EH]at he
 | _::_,[],_,_,_,he,_,_,_=>by simp [EH]at he
theorem AhL (hm:BP B S w0 m) (hs:CW B S m ρ a.eval) {mx:Bool} {o9:List AQ} (h:BD P num o.op (.mm mx o9)=true) {v r:AV} {l:List AV} (hx:o9.map ρ=v::l) (hv:PM mx v l=some r) (hi : ∃ k n,v = .int k n):CZ B S w0 P o a m (.val r):=by
 obtain ⟨xs,ts,m5,he⟩:=Th h;cases o9 with
 | nil=>simp at hx
 | cons y yr =>
  simp only[List.map_cons,List.cons.injEq]at hx;obtain ⟨rfl,rfl⟩:=hx;obtain ⟨xl⟩:=xs;cases xl with
  | nil=>simp [EH]at he
  | cons x xr =>
   simp only[EH,Bool.and_eq_true]at he;obtain ⟨k,n,rfl,u6⟩:=Vg (P:=P) mx hs m.w xr yr (ρ y) (a.eval x) r he.2 (hs x y he.1) hv hi;refine EF hm (u := .int k n) ?_ (YS _ _);cases mx
   ·simp only[execOp,m5,resolve,invoke,builtin,Builtin.min_,Sem.run_bind,Sem.run_pure,Result.andThen_ok]at u6 ⊢
    simp at u6 ⊢;rw[u6];rfl
   ·simp only[execOp,m5,resolve,invoke,builtin,Builtin.max_,Sem.run_bind,Sem.run_pure,Result.andThen_ok]at u6 ⊢
    simp at u6 ⊢;rw[u6];rfl
end
end Go.e8

namespace Go.e8
open Go.RowKit
section
variable {B:Nat} {S:Nat->Prop} {w0:World} {m:M}
variable {P:Program} {num:Nat->Nat} {o:Oper} {a:Act} {ρ:AQ->AV}
def HQ (ρ:AQ->AV) (d:Nat):Option AQ->Option Int
 | none=>some d
 | some y=>match ρ y with | .int _ n=>some n|_=>none
theorem nK (ty e:TypeId) (inf:TypeInfo) (hu:P.underlying ty=some (.slice e)) (hi:P.info? e=some inf) (hs:CW B S m ρ a.eval) {lo s9:Option Operand} {qp Gy:Option AQ} (qk:XP lo qp=true) (Jq:XP s9 Gy=true)
  (ad:Option Addr) (len cap:Nat) (l h:Int) (hl:HQ ρ 0 qp=some l) (hh:HQ ρ len Gy=some h) (h0:0<=l) (hlh:l<=h) (hhl:h<=len) (qj:len<=cap) (w:World) :
  (Instr.sliceAt ty (.slice ad len cap) (lo.map a.eval) (s9.map a.eval) none).run P w = .ok (.slice (if cap=l.toNat then ad else ad.map (·.add (l.toNat*inf.size))) (h.toNat-l.toNat) (cap-l.toNat)) w:=by
 have vi : ∀ {x:Option Operand} {y:Option AQ} {d:Nat} {n:Int},XP x y=true->HQ ρ d y=some n->(x=none/\y=none/\n=d) \/ ∃ x' k,x=some x'/\a.eval x' = .int k n:=by
  intro x y d n vq hb;cases x with
  | none=>cases y with
   | none=>simp [HQ]at hb;exact .inl ⟨rfl,rfl,hb.symm⟩
   | some y=>simp [XP]at vq
  | some x=>cases y with
   | none=>simp [XP]at vq
   | some y =>
    simp only[XP]at vq;simp only[HQ]at hb;cases hy:ρ y with
    | int k q =>
     rw[hy]at hb;simp only[Option.some.injEq]at hb;subst hb;exact .inr ⟨x,k,rfl,HB (hy ▸ hs x y vq)⟩
    | _=>rw[hy]at hb;cases hb
 have Bf:h<=(cap:Int):=by omega
 unfold Instr.sliceAt Instr.slice Instr.sliceBounds;rcases vi qk hl with ⟨rfl,_,rfl⟩|⟨x1,k1,rfl,e1⟩<;>rcases vi Jq hh with ⟨rfl,_,rfl⟩|⟨x2,k2,rfl,e2⟩
 ·simp [run_underlying hu,sizeOf,typeInfo,hi]
 ·have rh:=run_sliceBound (P:=P) w k2 h cap .sliceAcap (by omega) Bf
  simp [run_underlying hu,sizeOf,typeInfo,hi,e2,rh]
 ·have x8:=run_sliceBound (P:=P) w k1 l len .sliceB h0 (by omega)
  simp [run_underlying hu,sizeOf,typeInfo,hi,e1,x8]
 ·have rh:=run_sliceBound (P:=P) w k2 h cap .sliceAcap (by omega) Bf
  have x8:=run_sliceBound (P:=P) w k1 l h.toNat .sliceB h0 (by omega);simp [run_underlying hu,sizeOf,typeInfo,hi,e1,e2,rh,x8]
theorem AhP (hm:BP B S w0 m) (hs:CW B S m ρ a.eval) {c6:Nat} {x':AQ} {qp s9:Option AQ} (h:BD P num o.op (.jq c6 x' qp s9)=true) (hx:ρ x' = .nil) (hl:HQ ρ 0 qp=some 0) (hh:HQ ρ 0 s9=some 0):CZ B S w0 P o a m (.val .nil):=by
 obtain ⟨ty,x,lo,uj,e,inf,m5,h1,h2,h3,hu,hi,y7,m9⟩:=sN h;have ck:=ZH (hx ▸ hs x x' h1);have u6:=nK ty e inf hu hi hs h2 h3 none 0 0 0 0 hl hh (by omega) (by omega) (by omega) (by omega) m.w;refine EF hm (u := .slice none 0 0) ?_ (.ca (.one .nil));simp only[execOp,m5,ck,Sem.run_bind,Option.map_none,u6];rfl
theorem AhQ (hm:BP B S w0 m) (hs:CW B S m ρ a.eval) {c6:Nat} {x':AQ} {qp s9:Option AQ} (h:BD P num o.op (.jq c6 x' qp s9)=true) {s t z off len:Nat} {l u:Int} (hx:ρ x' = .row s t z off len) (hl:HQ ρ 0 qp=some l) (hh:HQ ρ len s9=some u) (h0:0<=l) (Jt:l<=u) (lq:u<=len) (hz:z=c6) :
  CZ B S w0 P o a m (.val (.row s t z (off+l.toNat) (u.toNat-l.toNat))):=by
 obtain ⟨ty,x,lo,uj,e,inf,m5,h1,h2,h3,hu,hi,y7,m9⟩:=sN h;obtain ⟨ad,cap,ck,ht,fg,qj,ha,hb⟩:=cR (hx ▸ hs x x' h1);have u6:=nK ty e inf hu hi hs h2 h3 ad len cap l u hl hh h0 Jt lq qj m.w;refine EF hm ?_ (.ca (.one (.row s t z (off+l.toNat) (u.toNat-l.toNat) (if cap=l.toNat then ad else ad.map (·.add (l.toNat*inf.size))) (cap-l.toNat) ht fg (by omega) (λ hp => ?_) λ b m6 => ?_)))
 ·simp only[execOp,m5,ck,Sem.run_bind,Option.map_none,u6]
  rfl
 ·rw[if_neg (by omega)]
  obtain ⟨Eh,rfl⟩:=Option.isSome_iff_exists.1 (ha (by omega));rfl
 ·obtain ⟨ti,db⟩:=hb b m6
  refine ⟨ti,?_⟩;rcases db with ⟨nn,ko⟩|⟨g,arr,e',hg,ni,Jp,hle⟩
  ·exact .inl ⟨by omega,by omega⟩
  ·by_cases hc:cap=l.toNat
   ·exact .inl ⟨by omega,by omega⟩
   ·refine .inr ⟨g,arr,e',hg,?_,Jp,?_⟩
    ·rw[if_neg hc,ni,y7,hz]
     simp only[Option.map_some,HP,Nat.add_mul]
    ·rw[show off+l.toNat+(cap-l.toNat)=off+cap by omega]
     exact hle
theorem AhR (hm:BP B S w0 m) (hs:CW B S m ρ a.eval) {c6:Nat} {x':AQ} {qp s9:Option AQ} (h:BD P num o.op (.jq c6 x' qp s9)=true) {lt:Bool} {es:List (List AV)} {l u:Int} (hx:ρ x' = .sl lt es) (hl:HQ ρ 0 qp=some l) (hh:HQ ρ es.length s9=some u) (h0:0<=l) (Jt:l<=u) (lq:u<=es.length) (hz : ∀ e∈es,e.length=c6) :
  CZ B S w0 P o a m (.val (.sl lt ((es.take u.toNat).drop l.toNat))):=by
 obtain ⟨ty,x,lo,uj,e,inf,m5,h1,h2,h3,hu,hi,y7,m9⟩:=sN h;have og:=kY (hx ▸ hs x x' h1);generalize ck:a.eval x=v at og;cases og with
 | kz _ ad cap =>
  have u6:=nK ty e inf hu hi hs h2 h3 ad 0 cap l u hl hh h0 Jt (by simpa using lq) (by omega) m.w;simp only[List.length_nil]at lq;rw[show (([]:List (List AV)).take u.toNat).drop l.toNat=[] by simp];refine EF hm (u := .slice (if cap=l.toNat then ad else ad.map (·.add (l.toNat*inf.size))) 0 (cap-l.toNat)) ?_ (.ca (.one (.rd (.kz lt _ _))));simp only[execOp,m5,ck,Sem.run_bind,Option.map_none,u6];rw[show u.toNat-l.toNat=0 by omega];rfl
 | sl _ _ b ob z7 cap uu xj hp hR bj jd hc hr =>
  have u6:=nK ty e inf hu hi hs h2 h3 (some ⟨b,ob,none⟩) es.length cap l u hl hh h0 Jt lq bj m.w;have Iq:z7=c6:=by
   cases es with
   | nil=>exact absurd rfl xj
   | cons q r=>rw[<-jd q (by simp),hz q (by simp)]
  subst Iq;by_cases fg:u.toNat-l.toNat=0
  ·have:(es.take u.toNat).drop l.toNat=[]:=by
    apply List.eq_nil_of_length_eq_zero;simp;omega
   rw[this];refine EF hm (u := .slice (if cap=l.toNat then some ⟨b,ob,none⟩ else (some (⟨b,ob,none⟩:Addr)).map (·.add (l.toNat*inf.size))) 0 (cap-l.toNat)) ?_ (.ca (.one (.rd (Rd.kz lt _ _))));simp only[execOp,m5,ck,Sem.run_bind,Option.map_none,u6];rw[fg];rfl
  ·have hlen:((es.take u.toNat).drop l.toNat).length=u.toNat-l.toNat:=by simp;omega
   have q6 : ∀ i,i<u.toNat-l.toNat->((es.take u.toNat).drop l.toNat)[i]? = es[l.toNat+i]? := λ i s9=>by
    rw[List.getElem?_drop,List.getElem?_take,if_pos (by omega)]
   refine EF hm (u := .slice (some ⟨b,ob+l.toNat*z7,none⟩) ((es.take u.toNat).drop l.toNat).length (cap-l.toNat)) ?_ (.ca (.one (.rd (.sl lt _ b (ob+l.toNat*z7) z7 (cap-l.toNat) (λ i j=>uu (l.toNat+i) j) (λ e=>fg (by rw[<-hlen,e];rfl)) hp hR (by rw[hlen];omega) (λ q hq=>jd q (List.mem_of_mem_take (List.mem_of_mem_drop hq))) (λ i q s9 j c hj => ?_) (λ i q s9 j c hj => ?_)))))
   ·simp only[execOp,m5,ck,Sem.run_bind,Option.map_none,u6]
    rw[if_neg (by omega),hlen,y7];simp only[Option.map_some,HP];rfl
   ·have ak:i<u.toNat-l.toNat:=by rw[<-hlen];exact (zS s9).1
    rw[q6 i ak]at s9;rw[show ob+l.toNat*z7+(i*z7+j)=ob+((l.toNat+i)*z7+j) by rw[Nat.add_mul];omega];exact hc _ q s9 j c hj
   ·have ak:i<u.toNat-l.toNat:=by rw[<-hlen];exact (zS s9).1
    rw[q6 i ak]at s9;exact hr _ q s9 j c hj
structure eV (B:Nat) (S:Nat->Prop) (m:M) (c6:Nat) (ys:List (List AV)) (ad:Option Addr) (news:List Value):Prop where
 len:news.length=ys.length*c6
 cells : ∀ b,ad=some b -> ∀ j v,news[j]? = some v->m.w.cell? (b.add j)=some v
 some_:ys≠[]->ad.isSome=true
 rel : ∀ i cs,ys[i]? = some cs -> ∀ j c,cs[j]? = some c -> ∃ u,news[i*c6+j]? = some u/\CC B S m c u
theorem Aha (c6 i j:Nat) (h:j<c6):(i*c6+j)/c6=i/\(i*c6+j)%c6=j:=by
 constructor
 ·rw[Nat.add_comm,Nat.add_mul_div_right _ _ (by omega),Nat.div_eq_of_lt h,Nat.zero_add]
 ·rw[Nat.add_comm,Nat.add_mul_mod_self_right,Nat.mod_eq_of_lt h]
theorem qR (hm:BP B S w0 m) {av:AV} {v:Value} (hc:CV B S m av v) {ys:List (List AV)} (he:EQ m.own av=some ys) {c6:Nat} (hz : ∀ e∈ys,e.length=c6) (h0:0<c6) :
  ∃ ad cap news,v = .slice ad ys.length cap/\eV B S m c6 ys ad news:=by
 cases av with
 | sl l es =>
  simp only[EQ,Option.some.injEq]at he;subst he;cases kY hc with
  | kz _ ad cap=>exact ⟨ad,cap,[],rfl,by simp,λ b _ j v hv=>by simp at hv,λ h=>absurd rfl h,λ i cs hi=>by simp at hi⟩
  | sl _ _ b ob z7 cap uu xj hp hR bj jd o4 hr =>
   have Iq:z7=c6:=by
    cases es with
    | nil=>exact absurd rfl xj
    | cons q r=>rw[<-jd q (by simp),hz q (by simp)]
   subst Iq;refine ⟨some ⟨b,ob,none⟩,cap,(List.range (es.length*z7)).map (λ k=>uu (k/z7) (k%z7)),rfl,by simp,λ b' m6 j v hv => ?_,λ_=>rfl,λ i cs hi j c hj => ?_⟩
   ·obtain rfl:(⟨b,ob,none⟩:Addr)=b':=by simpa using m6
    rw[List.getElem?_map]at hv;have dm:j<es.length*z7:=by
     rcases Nat.lt_or_ge j (es.length*z7) with h|h
     ·exact h
     ·rw[List.getElem?_eq_none (by simpa using h)]at hv;cases hv
    rw[List.getElem?_range dm]at hv;simp only[Option.map_some,Option.some.injEq]at hv;subst hv;have hd:j/z7<es.length:=Nat.div_lt_of_lt_mul (by rw[Nat.mul_comm];exact dm);have Nm:j%z7<z7:=Nat.mod_lt _ h0;have fy:(es[j/z7]).length=z7:=jd _ (List.getElem_mem hd);have:=o4 (j/z7) _ (zE hd) (j%z7) _ (zE (by rw[fy];exact Nm))
    rw[HP,<-this];congr 2;have:=Nat.div_add_mod j z7
    rw[Nat.mul_comm]at this;omega
   ·have dm:j<z7:=by rw[<-jd cs (zM hi)];exact (zS hj).1
    have ak:i<es.length:=(zS hi).1;have m7:i*z7+j<es.length*z7:=by
     have:(i+1)*z7<=es.length*z7:=Nat.mul_le_mul_right _ ak
     rw[Nat.succ_mul]at this;omega
    obtain ⟨e1,e2⟩:=Aha z7 i j dm;refine ⟨uu i j,?_,.rd (hr i cs hi j c hj)⟩;rw[List.getElem?_map,List.getElem?_range m7];simp [e1,e2]
 | nil =>
  simp only[EQ,Option.some.injEq]at he;subst he;exact ⟨none,0,[],ZH hc,by simp,λ b hb=>(by cases hb),λ h=>absurd rfl h,λ i cs hi=>by simp at hi⟩
 | row s t z off len =>
  obtain ⟨ad,cap,hv,ht,fg,qj,ha,hb⟩:=cR hc;simp only[EQ]at he;cases q6:m.own.get s t with
  | none=>simp [q6]at he
  | some b =>
   simp only[q6]at he;split at he
   ·rename_i hle
    obtain ⟨hle,ti⟩:=hle;obtain rfl:=Option.some.inj he;have se:((b.es.drop off).take len).length=len:=by simp;omega
    obtain ⟨_,db⟩:=hb b q6;by_cases nn:len=0
    ·subst nn
     refine ⟨ad,cap,[],by simpa using hv,by simp,λ b _ j v hv=>by simp at hv,λ h=>absurd (by simp) h,λ i cs hi=>by simp at hi⟩
    ·rcases db with ⟨h1,_⟩|⟨g,arr,e',hg,ni,Jp,AzR⟩
     ·exact absurd h1 nn
     ·obtain ⟨jd,fr⟩:=hm.j5 s t b q6
      rw[hg]at fr;obtain ⟨hB,wc,e2,Bi,aw⟩:=fr;rw[Jp]at Bi;obtain ⟨rfl,rfl⟩:arr=wc/\e'=e2:=by simpa using Bi
      have hez:c6=z:=by
       have m7:off<b.es.length:=by omega
       have h1:b.es[off]∈(b.es.drop off).take len:=by
        have:((b.es.drop off).take len)[0]? = some b.es[off]:=by
         rw[List.getElem?_take,if_pos (by omega),List.getElem?_drop];simp [m7]
        exact zM this
       rw[<-hz _ h1,jd _ (List.getElem_mem m7),ti]
      subst hez;have y7:off*c6+len*c6<=arr.size:=by
       have:(off+len)*c6<=(off+cap)*c6:=Nat.mul_le_mul_right _ (by omega)
       rw[Nat.add_mul]at this;omega
      refine ⟨ad,cap,(arr.toList.drop (off*c6)).take (len*c6),by rw[se];exact hv,by rw[se];simp;omega,λ b' m6 j v na => ?_,λ_=>by rw[ni];rfl,λ i cs hi j c hj => ?_⟩
      ·rw[ni]at m6
       obtain rfl:(⟨g,off*c6,none⟩:Addr)=b':=by simpa using m6
       rw[List.getElem?_take]at na;split at na
       ·rw[List.getElem?_drop]at na
        rw[HP,kQ Jp];simpa using na
       ·cases na
      ·rw[List.getElem?_take]at hi
       split at hi
       ·rename_i ak
        rw[List.getElem?_drop]at hi;have dm:j<c6:=by rw[<-ti,<-jd cs (zM hi)];exact (zS hj).1
        obtain ⟨u,hu,ij⟩:=aw (off+i) cs hi j c hj;refine ⟨u,?_,ij⟩;have m7:i*c6+j<len*c6:=by
         have:(i+1)*c6<=len*c6:=Nat.mul_le_mul_right _ ak
         rw[Nat.succ_mul]at this;omega
        rw[List.getElem?_take,if_pos m7,List.getElem?_drop,<-hu,ti];simp only[Array.getElem?_toList];congr 1;rw[Nat.add_mul];omega
       ·cases hi
   ·cases he
 | ep v' =>
  cases v' with
  | bool b =>
   simp only[EQ,Option.some.injEq]at he;subst he;obtain ⟨ad,cap,hv,_⟩:=zI hc;exact ⟨ad,cap,[],hv,by simp,λ b' m6 j v na=>by simp at na,λ h=>absurd rfl h,λ i cs hi=>by simp at hi⟩
  | _=>simp [EQ]at he
 | _=>simp [EQ]at he
theorem eV.one {c6:Nat} {ys:List (List AV)} {ad:Option Addr} {news:List Value} (h:eV B S m c6 ys ad news) (h0:0<c6) (hz : ∀ e∈ys,e.length=c6) : ∀ u∈news,u.oneCell'=true:=by
 intro u hu;obtain ⟨k,hk,rfl⟩:=List.getElem_of_mem hu;rw[h.len]at hk;have hd:k/c6<ys.length:=Nat.div_lt_of_lt_mul (by rw[Nat.mul_comm];exact hk);have Nm:k%c6<c6:=Nat.mod_lt _ h0;have fy:(ys[k/c6]).length=c6:=hz _ (List.getElem_mem hd);obtain ⟨u',nq,hc⟩:=h.rel (k/c6) _ (zE hd) (k%c6) _ (zE (by rw[fy];exact Nm));have gk:k/c6*c6+k%c6=k:=by
  have:=Nat.div_add_mod k c6
  rw[Nat.mul_comm]at this;exact this
 rw[gk]at nq;obtain rfl:news[k]=u':=by
  have:=(zS nq).2
  exact this
 exact hc.one
theorem eV.src {c6:Nat} {ys:List (List AV)} {ad:Option Addr} {news:List Value} (h:eV B S m c6 ys ad news) (h0:0<c6) (hz : ∀ e∈ys,e.length=c6) {t e:TypeId} (hu:P.underlying t=some (.slice e)) (cap:Nat):Src P c6 t (.slice ad ys.length cap) ys.length news m.w:=by
 cases ad with
 | none =>
  have xy:ys=[]:=by
   cases ys with
   | nil=>rfl
   | cons y r=>exact absurd (h.some_ (by simp)) (by simp)
  subst xy;have hn:news=[]:=List.eq_nil_of_length_eq_zero (by simpa using h.len);subst hn;exact Src.ofNil m.w hu cap
 | some b=>exact Src.ofSlice m.w hu b ys.length cap news h.len (h.cells b rfl) (h.one h0 hz)
theorem Al3 (arr:Array Value) (off:Nat) (news:List Value) (h:off+news.length<=arr.size) (p:Nat):(arr.toList.take off++news++arr.toList.drop (off+news.length)).toArray[p]? = if p<off then arr[p]? else if p<off+news.length then news[p-off]? else arr[p]? := by
 simp only[List.getElem?_toArray];rw[vI _ _ _ (by simpa using h)];simp only[Array.getElem?_toList]
theorem AmJ (t tx e ex:TypeId) (i:TypeInfo) (ht:P.underlying t=some (.slice e)) (hx:P.underlying tx=some (.slice ex)) (hi:P.info? e=some i) (g off sj vd:Nat) (x:Value) (n:Nat) (news:List Value) (w:World) (hs:Src P i.size tx x n news w) (jl:sj+n<=vd) (arr:Array Value) (e':TypeId)
  (hh:w.heap[g]? = some (.cells arr e' (0,0))) (y7:off+sj*i.size+news.length<=arr.size) (ty:TypeId) :
  (Builtin.append_ #[t,tx] ty #[.slice (some ⟨g,off,none⟩) sj vd,x]).run P w = .ok (.slice (some ⟨g,off,none⟩) (sj+n) vd) (w.setRow g (arr.toList.take (off+sj*i.size)++news++arr.toList.drop (off+sj*i.size+news.length)).toArray):=by
 have l9:=run_storeCells_at (P:=P) g (off+sj*i.size) e' news 0 arr w hh (by omega) hs.one;simp only[Nat.add_zero]at l9;simp [Builtin.append_,run_underlying ht,run_underlying hx,sizeOf,typeInfo,hi,hs.len,jl,hs.cells,HP,l9]
theorem Wp (t tx e ex:TypeId) (i:TypeInfo) (ht:P.underlying t=some (.slice e)) (hx:P.underlying tx=some (.slice ex)) (hi:P.info? e=some i) (ad:Option Addr) (vd:Nat) (x:Value) (w:World) (hs:Src P i.size tx x 0 [] w) (ty:TypeId) :
  (Builtin.append_ #[t,tx] ty #[.slice ad 0 vd,x]).run P w = .ok (.slice ad 0 vd) w:=by
 have hc:=hs.cells;cases ad<;>simp [Builtin.append_,run_underlying ht,run_underlying hx,sizeOf,typeInfo,hi,hs.len,hc,storeCells]
theorem eC {x y:Operand} {t tx:TypeId} (m5:o.op = .call ⟨.builtin .append,#[x,y],#[t,tx]⟩) {u:Value} {w w':World} (h:(Builtin.append_ #[t,tx] o.type #[a.eval x,a.eval y]).run P w = .ok u w'):(execOp a.eval o).run P w = .ok (.value u) w':=by
 simp [execOp,m5,resolve,invoke,builtin,h]
theorem Ako (fi news:List Value) (z:Array Value) (k p:Nat) (h:p<fi.length+news.length):((fi++news).toArray++Builtin.zeroCells z k)[p]? = (fi++news)[p]? := by
 rw[Array.getElem?_append_left (by simpa using h)];simp
theorem AmF {c6 len:Nat} {xs ys:List (List AV)} {fi news:List Value} (vp:xs.length=len) (Jw:fi.length=len*c6) (hzx : ∀ e∈xs,e.length=c6)
  (hx : ∀ i cs,xs[i]? = some cs -> ∀ j c,cs[j]? = some c -> ∃ u,fi[i*c6+j]? = some u/\CC B S m c u)
  (hy : ∀ i cs,ys[i]? = some cs -> ∀ j c,cs[j]? = some c -> ∃ u,news[i*c6+j]? = some u/\CC B S m c u) :
  ∀ i cs,(xs++ys)[i]? = some cs -> ∀ j c,cs[j]? = some c -> ∃ u,(fi++news)[i*c6+j]? = some u/\CC B S m c u:=by
 intro i cs hi j c hj;by_cases ak:i<len
 ·rw[List.getElem?_append_left (by omega)]at hi
  obtain ⟨u,hu,hc⟩:=hx i cs hi j c hj;exact ⟨u,by rw[List.getElem?_append_left (by have:=(zS hu).1;omega)];exact hu,hc⟩
 ·rw[List.getElem?_append_right (by omega),vp]at hi
  obtain ⟨u,hu,hc⟩:=hy (i-len) cs hi j c hj;refine ⟨u,?_,hc⟩;have e1:i*c6=len*c6+(i-len)*c6:=by rw[<-Nat.add_mul];congr 1;omega
  rw[List.getElem?_append_right (by omega),<-hu];congr 1;omega
theorem Wr {s z n cap:Nat} {es:List (List AV)} {w':World} {g t:Nat} {arr:Array Value} {e:TypeId} (hz:0<z) (hn:n<=cap) (hg:w'.heap[g]? = some (.cells arr e (0,0))) (hc:cap*z<=arr.size) :
  CV B S ⟨k7 m s (some g),m.own.put s (((m.own s).u7 t none).new ⟨z,es⟩),w'⟩ (.row s (m.own.k6 s) z 0 n) (.slice (some ⟨g,0,none⟩) n cap):=by
 refine .ca (.one (.row s (m.own.k6 s) z 0 n _ cap ?_ hz hn (λ_=>rfl) λ b' m6=>⟨?_,.inr ⟨g,arr,e,?_,by simp,hg,by simpa using hc⟩⟩))
 ·show _<AH.k6 _ s
  rw[kV];simp
 ·change AH.get _ s _=some b' at m6
  rw[aZ,if_pos ⟨rfl,rfl⟩]at m6;obtain rfl:(⟨z,es⟩:ED)=b':=by simpa using m6
  rfl
 ·simp [k7]
theorem Af9 (hm:BP B S w0 m) (ob:Obj):Below B w0 (m.w.drew.alloc ob):=hm.below.drew.alloc (by simpa using hm.size) ob
theorem Ahi (hm:BP B S w0 m) (hs:CW B S m ρ a.eval) {s c6 bytes:Nat} {x' y':AQ} (h:BD P num o.op (.app s c6 bytes x' y')=true) {ys:List (List AV)} (hy:EQ m.own (ρ y')=some ys) (hz : ∀ e∈ys,e.length=c6) {s' t len:Nat} {b:ED} (hx:ρ x' = .row s' t c6 0 len) (q6:m.own.get s' t=some b)
  (ti:b.c6=c6) (hle:len<=b.es.length) (jl:(len+ys.length)*bytes<=EB) (Ek:len+ys.length<=9223372036854775807) :
  CZ B S w0 P o a m (.fk (.row s' (m.own.k6 s') c6 0 (len+ys.length)) (m.own.put s' (((m.own s').u7 t none).new ⟨c6,b.es.take len++ys⟩))):=by
 obtain ⟨x,y,ty,e,i,z,tx,ex,m5,h1,h2,hu,hi,y7,qe,fg,jd,m9,Bu⟩:=Te h;have h0:0<c6:=Nat.pos_of_ne_zero m9;obtain ⟨ad,cap,ck,ht,_,qj,ha,hb⟩:=cR (hx ▸ hs x x' h1);obtain ⟨Ce,mq,news,yz,fy⟩:=qR hm (hs y y' h2) hy hz h0;have uz:Src P i.size tx (.slice Ce ys.length mq) ys.length news m.w:=by rw[y7];exact fy.src h0 hz Bu mq
 obtain ⟨nk,fr⟩:=hm.j5 s' t b q6;obtain ⟨_,db⟩:=hb b q6;have cp:(b.es.take len).length=len:=by simp;omega
 have Bz : ∀ q∈b.es.take len++ys,q.length=c6:=λ q hq=>by
  rcases List.mem_append.1 hq with hq|hq
  ·rw[<-ti];exact nk q (List.mem_of_mem_take hq)
  ·exact hz q hq
 intro K Q hK;by_cases wy:len+ys.length<=cap
 ·rcases db with ⟨nn,ko⟩|⟨g,arr,e',hg,ni,hh,Mi⟩
  ·have xy:ys=[]:=List.eq_nil_of_length_eq_zero (by omega)
   subst xy;subst nn ko;have vj:news=[]:=List.eq_nil_of_length_eq_zero (by simpa using fy.len);subst vj;have u6:=Wp ty tx e ex i hu Bu hi ad 0 (.slice Ce 0 mq) m.w (by simpa using uz) o.type;obtain ⟨k1,k2⟩:=tF hm s' t b ⟨c6,b.es.take 0++[]⟩ q6 none m.w hm.below (Nat.le_refl _) (λ_ _ _=>rfl) (by simp) (by simp) (by simp);refine X5 (eC m5 (by rw[ck,yz];simpa using u6)) (hK _ ⟨k7 m s' none,m.own.put s' (((m.own s').u7 t none).new ⟨c6,b.es.take 0++[]⟩),m.w⟩ rfl k1 k2 (.ca (.one (.row s' (m.own.k6 s') c6 0 0 ad 0 ?_ h0 (Nat.le_refl _) (λ h=>by omega) λ b' m6=>⟨?_,.inl ⟨rfl,rfl⟩⟩))))
   ·show _<AH.k6 _ s'
    rw[kV];simp
   ·change AH.get _ s' _=some b' at m6
    rw[aZ,if_pos ⟨rfl,rfl⟩]at m6;obtain rfl:(⟨c6,b.es.take 0++[]⟩:ED)=b':=by simpa using m6
    rfl
  ·have Cv:ad=some ⟨g,0,none⟩:=by simpa using ni
   rw[hg]at fr;obtain ⟨hB,wc,e2,Bi,aw⟩:=fr;rw[hh]at Bi;obtain ⟨rfl,rfl⟩:arr=wc/\e'=e2:=by simpa using Bi
   have Eu:news.length=ys.length*c6:=fy.len;have hbound:len*c6+news.length<=arr.size:=by
    have:(len+ys.length)*c6<=(0+cap)*c6:=Nat.mul_le_mul_right _ (by omega)
    rw[Nat.add_mul]at this;omega
   have u6:=AmJ ty tx e ex i hu Bu hi g 0 len cap (.slice Ce ys.length mq) ys.length news m.w uz wy arr e' hh (by rw[y7];omega) o.type;rw[y7,Nat.zero_add]at u6;generalize ou:(arr.toList.take (len*c6)++news++arr.toList.drop (len*c6+news.length)).toArray=z0 at u6;have ga : ∀ p,z0[p]? = if p<len*c6 then arr[p]? else if p<len*c6+news.length then news[p-len*c6]? else arr[p]? := λ p=>by rw[<-ou];exact Al3 arr (len*c6) news hbound p
   have ru:z0.size=arr.size:=by rw[<-ou];simp;omega
   obtain ⟨k1,k2⟩:=tF hm s' t b ⟨c6,b.es.take len++ys⟩ q6 (some g) (m.w.setRow g z0) (xL hm hB z0) (by simp) (λ k _ xj=>setRow_other _ _ _ _ (λ e=>xj (e ▸ hg))) Bz (by simp) (λ g' lk=>by
    obtain rfl:g=g':=by simpa using lk
    refine ⟨hB,.inr hg,z0,e',setRow_heap _ _ _ _ _ _ hh,λ i' cs s9 j c hj => ?_⟩;show ∃ u,z0[i'*c6+j]? = some u/\_;by_cases ak:i'<len
    ·rw[List.getElem?_append_left (by omega),List.getElem?_take,if_pos ak]at s9
     have dm:j<c6:=by rw[<-ti,<-nk cs (zM s9)];exact (zS hj).1
     obtain ⟨u,nq,ij⟩:=aw i' cs s9 j c hj;refine ⟨u,?_,ij⟩;have:(i'+1)*c6<=len*c6:=Nat.mul_le_mul_right _ ak
     rw[Nat.succ_mul]at this;rw[ga,if_pos (by omega),<-nq,ti]
    ·rw[List.getElem?_append_right (by omega),cp]at s9
     obtain ⟨u,nq,ij⟩:=fy.rel (i'-len) cs s9 j c hj;refine ⟨u,?_,ij⟩;have lq:=(zS nq).1;have e1:i'*c6=len*c6+(i'-len)*c6:=by rw[<-Nat.add_mul];congr 1;omega
     rw[ga,if_neg (by omega),if_pos (by omega),<-nq];congr 1;omega)
   exact X5 (eC m5 (by rw[ck,yz,Cv];exact u6)) (hK _ ⟨k7 m s' (some g),m.own.put s' (((m.own s').u7 t none).new ⟨c6,b.es.take len++ys⟩),m.w.setRow g z0⟩ rfl k1 k2 (Wr h0 wy (setRow_heap _ _ _ _ _ _ hh) (by rw[ru];simpa using Mi)))
 ·have Bh:cap<len+ys.length:=by omega
  obtain ⟨fi,Jw,hold,Od⟩ : ∃ fi:List Value,fi.length=len*c6/\(Builtin.firstCells i.size len (.slice ad len cap)).run P m.w.drew = .ok fi.toArray m.w.drew/\(∀ i' cs,(b.es.take len)[i']? = some cs -> ∀ j c,cs[j]? = some c -> ∃ u,fi[i'*c6+j]? = some u/\CC B S m c u):=by
   rcases db with ⟨nn,ko⟩|⟨g,arr,e',hg,ni,hh,Mi⟩
   ·subst nn
    refine ⟨[],by simp,?_,λ i' cs s9=>by simp at s9⟩;cases ad with
    | none=>exact run_firstCells_none m.w.drew i.size 0 0 cap
    | some Eh=>exact run_firstCells_some m.w.drew i.size 0 Eh 0 cap [] (by simp) (λ j v hv=>by simp at hv)
   ·have Cv:ad=some ⟨g,0,none⟩:=by simpa using ni
    rw[hg]at fr;obtain ⟨hB,wc,e2,Bi,aw⟩:=fr;rw[hh]at Bi;obtain ⟨rfl,rfl⟩:arr=wc/\e'=e2:=by simpa using Bi
    have o4:len*c6<=arr.size:=by
     have:len*c6<=(0+cap)*c6:=Nat.mul_le_mul_right _ (by omega)
     omega
    refine ⟨arr.toList.take (len*c6),by simp;omega,?_,λ i' cs s9 j c hj => ?_⟩
    ·rw[Cv]
     refine run_firstCells_some m.w.drew i.size len ⟨g,0,none⟩ len cap _ (by rw[y7];simp;omega) (λ j v hv => ?_);rw[List.getElem?_take]at hv;split at hv
     ·rw[HP,kQ (w:=m.w.drew) (show m.w.heap[g]? = _ from hh)]
      simpa using hv
     ·cases hv
    ·rw[List.getElem?_take]at s9
     split at s9
     ·rename_i ak
      have dm:j<c6:=by rw[<-ti,<-nk cs (zM s9)];exact (zS hj).1
      obtain ⟨u,nq,ij⟩:=aw i' cs s9 j c hj;refine ⟨u,?_,ij⟩;have:(i'+1)*c6<=len*c6:=Nat.mul_le_mul_right _ ak
      rw[Nat.succ_mul]at this;rw[List.getElem?_take,if_pos (by omega),<-nq,ti];simp
     ·cases s9
  have u6:=run_append_grow_src (P:=P) m.w ty tx o.type e i z hu hi fg ad len cap fi hold (.slice Ce ys.length mq) ys.length news uz Bh (by omega) (growslice_fits Bh (by rw[qe];exact jl));have Eu:news.length=ys.length*c6:=fy.len;have bj:len+ys.length<=grownCap m.w (len+ys.length) cap e:=grownCap_ge _ _ _ _;generalize Gw:grownCap m.w (len+ys.length) cap e=gc at u6 bj;have kn:=Af9 hm (.cells ((fi++news).toArray++Builtin.zeroCells z.cells (gc-(len+ys.length))) e);have np:(m.w.drew.alloc (.cells ((fi++news).toArray++Builtin.zeroCells z.cells (gc-(len+ys.length))) e)).heap[m.w.heap.size]? = some (.cells ((fi++news).toArray++Builtin.zeroCells z.cells (gc-(len+ys.length))) e (0,0)):=heap_alloc_new m.w.drew _;obtain ⟨k1,k2⟩:=tF hm s' t b ⟨c6,b.es.take len++ys⟩ q6 (some m.w.heap.size) _ kn (by simp) (λ k hk _=>Below.heap_alloc m.w.drew _ k hk) Bz (by simp) (λ g' lk=>by
   obtain rfl:m.w.heap.size=g':=by simpa using lk
   refine ⟨hm.size,.inl (Nat.le_refl _),_,e,np,λ i' cs s9 j c hj => ?_⟩;obtain ⟨u,nq,ij⟩:=AmF cp Jw (λ q hq=>by rw[<-ti];exact nk q (List.mem_of_mem_take hq)) Od fy.rel i' cs s9 j c hj;refine ⟨u,?_,ij⟩;rw[Ako _ _ _ _ _ (by have:=(zS nq).1;simpa using this)];exact nq)
  refine X5 (eC m5 (by rw[ck,yz];exact u6)) (hK _ ⟨k7 m s' (some m.w.heap.size),m.own.put s' (((m.own s').u7 t none).new ⟨c6,b.es.take len++ys⟩),_⟩ rfl k1 k2 (Wr h0 bj np ?_));have Ca:(Builtin.zeroCells z.cells (gc-(len+ys.length))).size=(gc-(len+ys.length))*c6:=by simp [Builtin.zeroCells,jd]
  rw[Array.size_append,Ca];simp only[List.size_toArray,List.length_append,Jw,Eu];rw[<-Nat.add_mul,<-Nat.add_mul];exact Nat.mul_le_mul_right _ (by omega)
theorem Ahh (hm:BP B S w0 m) (hs:CW B S m ρ a.eval) {s c6 bytes:Nat} {x' y':AQ} (h:BD P num o.op (.app s c6 bytes x' y')=true) {ys:List (List AV)} (hy:EQ m.own (ρ y')=some ys) (hz : ∀ e∈ys,e.length=c6) (hx:ρ x' = .nil)
  (jl:ys.length*bytes<=EB) (Ek:ys.length<=9223372036854775807) :
  CZ B S w0 P o a m (.fk (.row s (m.own.k6 s) c6 0 ys.length) (m.own.put s ((m.own s).new ⟨c6,ys⟩))):=by
 obtain ⟨x,y,ty,e,i,z,tx,ex,m5,h1,h2,hu,hi,y7,qe,fg,jd,m9,Bu⟩:=Te h;have h0:0<c6:=Nat.pos_of_ne_zero m9;have ck:=ZH (hx ▸ hs x x' h1);obtain ⟨Ce,mq,news,yz,fy⟩:=qR hm (hs y y' h2) hy hz h0;have uz:Src P i.size tx (.slice Ce ys.length mq) ys.length news m.w:=by rw[y7];exact fy.src h0 hz Bu mq
 intro K Q hK;by_cases xy:ys=[]
 ·subst xy
  have vj:news=[]:=List.eq_nil_of_length_eq_zero (by simpa using fy.len);subst vj;have u6:=Wp ty tx e ex i hu Bu hi none 0 (.slice Ce 0 mq) m.w (by simpa using uz) o.type;obtain ⟨k1,k2⟩:=Zq hm s c6;refine X5 (eC m5 (by rw[ck,yz];simpa using u6)) (hK _ ⟨k7 m s none,m.own.put s ((m.own s).new ⟨c6,[]⟩),m.w⟩ rfl k1 k2 (.ca (.one (.row s (m.own.k6 s) c6 0 0 none 0 ?_ h0 (Nat.le_refl _) (λ h=>by omega) λ b' m6=>⟨?_,.inl ⟨rfl,rfl⟩⟩))))
  ·show _<AH.k6 _ s
   rw[SZ];simp
  ·change AH.get _ s _=some b' at m6
   rw[GD,if_pos ⟨rfl,rfl⟩]at m6;obtain rfl:(⟨c6,[]⟩:ED)=b':=by simpa using m6
   rfl
 ·have xn:0<ys.length:=List.length_pos_iff.2 xy
  have u6:=run_append_grow_src (P:=P) m.w ty tx o.type e i z hu hi fg none 0 0 [] (run_firstCells_none m.w.drew i.size 0 0 0) (.slice Ce ys.length mq) ys.length news uz (by omega) (by omega) (growslice_fits (by omega) (by rw[qe,Nat.zero_add];exact jl));simp only[Nat.zero_add,List.nil_append]at u6;have Eu:news.length=ys.length*c6:=fy.len;have bj:ys.length<=grownCap m.w ys.length 0 e:=grownCap_ge _ _ _ _;generalize Gw:grownCap m.w ys.length 0 e=gc at u6 bj;have hd:Below m.w.heap.size m.w m.w.drew:=(Below.refl _ _).drew;obtain ⟨mi,Dg⟩:=grow hm hd;obtain ⟨k1,k2⟩:=kH mi s ⟨c6,ys⟩ (news.toArray++Builtin.zeroCells z.cells (gc-ys.length)) e hz (λ i' cs s9 j c hj=>by
   obtain ⟨u,nq,ij⟩:=fy.rel i' cs s9 j c hj;refine ⟨u,?_,Dg.cc ij⟩;have lq:=(zS nq).1;show (news.toArray++Builtin.zeroCells z.cells (gc-ys.length))[i'*c6+j]? = some u;rw[Array.getElem?_append_left (by simpa using lq)];simpa using nq)
  have Ca:(Builtin.zeroCells z.cells (gc-ys.length)).size=(gc-ys.length)*c6:=by simp [Builtin.zeroCells,jd]
  refine X5 (eC m5 (by rw[ck,yz];exact u6)) (hK _ ⟨k7 ⟨m.ν,m.own,m.w.drew⟩ s (some m.w.drew.heap.size),m.own.put s ((m.own s).new ⟨c6,ys⟩),_⟩ rfl k1 (Dg.trans k2) (tL (m:=⟨m.ν,m.own,m.w.drew⟩) h0 bj (heap_alloc_new m.w.drew _) ?_));rw[Array.size_append,Ca];simp only[List.size_toArray,Eu];rw[<-Nat.add_mul];exact Nat.mul_le_mul_right _ (by omega)
theorem AmK (w:World) (t tx ty e:TypeId) (i:TypeInfo) (z:Value) (ht:P.underlying t=some (.slice e)) {k:IntKind} (hk:P.underlying tx=some (.int k)) (hi:P.info? e=some i) (hz:i.zero=some z) (k':IntKind) (n:Nat)
  (hn:0<n) (Ek:(n:Int)<=9223372036854775807) (h48:n*i.bytes<=EB) (m9:i.size≠0) :
  (Builtin.append_ #[t,tx] ty #[.slice none 0 0,.int k' n]).run P w =
   .ok (.slice (some ⟨w.heap.size,0,none⟩) n (grownCap w n 0 e))
    (w.drew.alloc (.cells (Builtin.zeroCells z.cells n++Builtin.zeroCells z.cells (grownCap w n 0 e-n)) e)):=by
 have wy:=growslice_fits (old:=0) (need:=n) (bytes:=i.bytes) hn h48;have h1 : ¬ (n:Int)<0:=by omega
 have h2 : ¬ n=0:=by omega
 have h3 : ¬ (9223372036854775807<(n:Int)):=by omega
 have h5 : ¬ (281474976710656<Builtin.nextslicecap n 0*i.bytes):=by omega
 have h6 : ¬ ((281474976710656:Int)<(n:Int)*(i.bytes:Int)):=by
  have Kr:n*i.bytes<=140737488355328:=h48;have h7:=Int.ofNat_le.2 Kr;rw[Int.natCast_mul]at h7;omega
 have hA : ∀ w':World,(asIntOf (.int k' n)).run P w' = .ok (k',(n:Int)) w':=λ w'=>rfl
 have e1:IntKind.i64.wrap (n:Int)=n:=by rw[IntKind.wrap_i64];omega
 generalize hw:IntKind.i64.wrap (n:Int)=q at e1;subst e1;simp [Builtin.append_,run_underlying ht,run_underlying hk,sizeOf,typeInfo,zeroValue,hi,hz,asInt,hA,hw,h1,h2,h3,h5,h6,m9,Question.forced,Builtin.firstCells,newRow,grownCap];intro h;rcases Nat.mul_eq_zero.1 h with h|h
 ·exact absurd h h2
 ·exact absurd h m9
theorem Ahj (hm:BP B S w0 m) (hs:CW B S m ρ a.eval) {s c6 bytes:Nat} {x' y':AQ} (h:BD P num o.op (.pz s c6 bytes x' y')=true) (hx:ρ x' = .nil) {k':IntKind} {n:Int} (hy:ρ y' = .int k' n)
  (hn:0<n) (jl:n*bytes<=EB) (Ek:n<=9223372036854775807) :
  CZ B S w0 P o a m (.new s ⟨c6,[]⟩ (λ t => .row s t c6 0 n.toNat)):=by
 obtain ⟨x,y,ty,e,i,z,tx,k,m5,h1,h2,hu,hi,y7,qe,fg,jd,m9,Bu⟩:=AkX h;have h0:0<c6:=Nat.pos_of_ne_zero m9;have ck:=ZH (hx ▸ hs x x' h1);have hey:=HB (hy ▸ hs y y' h2);obtain ⟨q,rfl⟩ : ∃ q:Nat,n=q:=⟨n.toNat,by omega⟩;simp only[Int.toNat_natCast];intro K Q hK;have u6:=AmK (P:=P) m.w ty tx o.type e i z hu Bu hi fg k' q (by omega) Ek (by
  rw[qe];rw[<-Int.natCast_mul]at jl;exact Int.ofNat_le.1 jl) (by rw[y7];exact m9)
 have bj:q<=grownCap m.w q 0 e:=grownCap_ge _ _ _ _;generalize Gw:grownCap m.w q 0 e=gc at u6 bj;have hd:Below m.w.heap.size m.w m.w.drew:=(Below.refl _ _).drew;obtain ⟨mi,Dg⟩:=grow hm hd;obtain ⟨k1,k2⟩:=kH mi s ⟨c6,[]⟩ (Builtin.zeroCells z.cells q++Builtin.zeroCells z.cells (gc-q)) e (by simp) (λ i' cs s9 j c hj=>by simp at s9);have Ca : ∀ n,(Builtin.zeroCells z.cells n).size=n*c6:=λ n=>by simp [Builtin.zeroCells,jd]
 refine X5 (eC m5 (by rw[ck,hey];exact u6)) (hK _ ⟨k7 ⟨m.ν,m.own,m.w.drew⟩ s (some m.w.drew.heap.size),m.own.put s ((m.own s).new ⟨c6,[]⟩),_⟩ rfl k1 (Dg.trans k2) (tL (m:=⟨m.ν,m.own,m.w.drew⟩) h0 bj (heap_alloc_new m.w.drew _) ?_));rw[Array.size_append,Ca,Ca,<-Nat.add_mul];exact Nat.mul_le_mul_right _ (by omega)
end
end Go.e8

namespace Go.e8
open Go.RowKit
section
variable {B:Nat} {S:Nat->Prop} {w0:World} {m:M}
variable {P:Program} {num:Nat->Nat} {o:Oper} {a:Act} {ρ:AQ->AV}
structure G8 (P:Program) (num:Nat->Nat) (C:Cl):Prop where
 wk : ∀ (f:Nat) (vs:List AV) (r:AV),C.pure f vs=some r -> ∀ (us:Array Value) (w:World),(callFunc (num f) us).run P w = .ok (.enter (num f) us) w
 re : ∀ (f:Nat) (vs:List AV) (own:AH) (r:AV × AH),C.ju f vs own=some r -> ∀ (us:Array Value) (w:World),(callFunc (num f) us).run P w = .ok (.enter (num f) us) w
 pure : ∀ (f:Nat) (vs:List AV) (r:AV),C.pure f vs=some r -> ∀ (S:Nat->Prop) (w:World) (us:List Value),vs.length=us.length->(∀ (j:Nat) (c:AV) (v:Value),vs[j]? = some c->us[j]? = some v->CA w.heap.size S ⟨λ_ _=>none,AH.emp,w⟩ c v) ->
  Calls P (num f) us.toArray w λ e w' => ∃ u,e = .returned u/\Below w.heap.size w w'/\CV w.heap.size S ⟨λ_ _=>none,AH.emp,w'⟩ r u/\A0 r
 ju : ∀ (f:Nat) (vs:List AV) (own:AH) (r:AV) (n0:AH),C.ju f vs own=some (r,n0) -> ∀ (B:Nat) (S:Nat->Prop) (w0:World) (m:M) (us:List Value),m.own=own->BP B S w0 m->vs.length=us.length->(∀ (j:Nat) (c:AV) (v:Value),vs[j]? = some c->us[j]? = some v->CV B S m c v) ->
  Calls P (num f) us.toArray m.w λ e w' => ∃ u m',e = .returned u/\m'.w=w'/\m'.own=n0/\BP B S w0 m'/\DM B S m m'/\CV B S m' r u
 num:C.num=num
end
end Go.e8

namespace Go.e8
open Go.RowKit
theorem YQ {α β:Type} (f:α->Option β) : ∀ {l:List α} {l':List β},l.mapM f=some l'->l.length=l'.length /\ ∀ (i:Nat) (x:α),l[i]? = some x -> ∃ y,l'[i]? = some y/\f x=some y
 | [],l',h=>by
  simp at h;subst h;exact ⟨rfl,λ i x hx=>by simp at hx⟩
 | x::r,l',h=>by
  simp only[List.mapM_cons,Option.bind_eq_bind,Option.pure_def]at h;cases hx:f x with
  | none=>simp [hx]at h
  | some y =>
   cases hr:r.mapM f with
   | none=>simp [hx,hr]at h
   | some r' =>
    simp [hx,hr]at h;subst h;obtain ⟨h1,h2⟩:=YQ f hr;refine ⟨by simp [h1],λ i z hz => ?_⟩;cases i with
    | zero=>simp at hz;subst hz;exact ⟨y,rfl,hx⟩
    | succ i=>exact h2 i z (by simpa using hz)
section
variable {B:Nat} {S:Nat->Prop} {w0:World} {m:M}
variable {P:Program} {num:Nat->Nat} {o:Oper} {a:Act} {ρ:AQ->AV}
theorem Zh (hm:BP B S w0 m) (l0:Bool) (R:Bool->Nat->Prop) (hR : ∀ l b,b<m.w.heap.size->safe B S m l b->R l b) (hL : ∀ s t g,live m s t->m.ν s t=some g->R l0 g) :
  ∀ (d:Nat) (c c':AV) (v:Value),snap m.own l0 d c=some c'->CC B S m c v->Rd m.w R c' v:=by
 intro d;induction d with
 | zero =>
  intro c c' v h hc;cases hc with
  | rd hr =>
   have:c'=c:=by cases hr<;>simp [snap]at h<;>exact h.symm
   subst this;exact hr.mono hR (λ_ _ _ _=>rfl)
  | nil=>simp [snap]at h;subst h;exact .kz _ _ _
  | _=>simp [snap]at h
 | succ d ih =>
  intro c c' v h hc;cases hc with
  | rd hr =>
   have:c'=c:=by cases hr<;>simp [snap]at h<;>exact h.symm
   subst this;exact hr.mono hR (λ_ _ _ _=>rfl)
  | nil=>simp [snap]at h;subst h;exact .kz _ _ _
  | ptr=>simp [snap]at h
  | x7=>simp [snap]at h
  | row s t z off len ad cap ht fg qj ha hb =>
   simp only[snap]at h;cases fy:EQ m.own (.row s t z off len) with
   | none=>simp [fy]at h
   | some es =>
    simp only[fy]at h;cases kt:es.mapM (λ cs:List AV=>cs.mapM (snap m.own l0 d)) with
    | none=>simp [kt]at h
    | some es' =>
     simp [kt]at h;subst h;have Pr:(∀ e∈es,e.length=z)/\es.length=len /\ ∃ b,m.own.get s t=some b:=by
      simp only[EQ]at fy;cases q6:m.own.get s t with
      | none=>simp [q6]at fy
      | some b =>
       simp only[q6]at fy;split at fy
       ·rename_i hle
        obtain rfl:=Option.some.inj fy;refine ⟨λ e he => ?_,by simp;omega,b,rfl⟩;rw[<-hle.2];exact (hm.j5 s t b q6).1 e (List.mem_of_mem_drop (List.mem_of_mem_take he))
       ·cases fy
     obtain ⟨hz,hlen,b,q6⟩:=Pr;have af:CV B S m (.row s t z off len) (.slice ad len cap):= .ca (.one (.row s t z off len ad cap ht fg qj ha hb));obtain ⟨ad2,Cf,news,Ke,hE⟩:=qR hm af fy hz fg;obtain ⟨rfl,_,rfl⟩:ad=ad2/\len=es.length/\cap=Cf:=by simpa using Ke
     obtain ⟨mf,xa⟩:=YQ _ kt;by_cases h0:es=[]
     ·subst h0
      have:es'=[]:=List.eq_nil_of_length_eq_zero (by rw[<-mf];rfl)
      subst this;have:len=0:=by rw[<-hlen];rfl
      subst this;exact .kz _ _ _
     ·obtain ⟨_,db⟩:=hb b q6
      rcases db with ⟨AzO,_⟩|⟨g,arr,e',hg,ni,hh,Mi⟩
      ·exact absurd (List.eq_nil_of_length_eq_zero (by omega)) h0
      ·rw[ni,<-hlen,mf]
       refine .sl l0 es' g (off*z) z cap (λ i j=>news.getD (i*z+j) undef) (λ e=>h0 (List.eq_nil_of_length_eq_zero (by rw[mf,e];rfl))) fg (hL s t g ⟨b,q6⟩ hg) (by omega) (λ e' kp => ?_) (λ i e hi j c hj => ?_) (λ i e hi j c hj => ?_)
       ·obtain ⟨i,hi,rfl⟩:=List.getElem_of_mem kp
        have s9:i<es.length:=by omega
        obtain ⟨y,hy,ji⟩:=xa i es[i] (zE s9);have:es'[i]=y:=by
         have:=(zS hy).2;exact this
        rw[this,<-(YQ _ ji).1];exact hz _ (List.getElem_mem s9)
       ·have s9:i<es.length:=by rw[mf];exact (zS hi).1
        obtain ⟨y,hy,ji⟩:=xa i es[i] (zE s9);rw[hi]at hy;obtain rfl:e=y:=by simpa using hy
        obtain ⟨ja,_⟩:=YQ _ ji;have Et:j<(es[i]).length:=by rw[ja];exact (zS hj).1
        obtain ⟨u,hu,ij⟩:=hE.rel i es[i] (zE s9) j _ (zE Et);have:=hE.cells _ ni (i*z+j) u hu
        rw[HP]at this;simp only[List.getD,hu,Option.getD_some];exact this
       ·have s9:i<es.length:=by rw[mf];exact (zS hi).1
        obtain ⟨y,hy,ji⟩:=xa i es[i] (zE s9);rw[hi]at hy;obtain rfl:e=y:=by simpa using hy
        obtain ⟨ja,lk⟩:=YQ _ ji;have Et:j<(es[i]).length:=by rw[ja];exact (zS hj).1
        obtain ⟨u,hu,ij⟩:=hE.rel i es[i] (zE s9) j _ (zE Et);obtain ⟨c2,tj,rm⟩:=lk j _ (zE Et);rw[hj]at tj;obtain rfl:c=c2:=by simpa using tj
        simp only[List.getD,hu,Option.getD_some];exact ih _ _ _ rm ij
def DA (w:World) (R:Bool->Nat->Prop) (c:AV) (v:Value):Prop :=
 Rd w R c v \/ ∃ (cs:List AV) (vs:List Value),c = .agg cs/\v = .agg vs.toArray/\cs.length=vs.length /\ ∀ (j:Nat) (x:AV) (u:Value),cs[j]? = some x->vs[j]? = some u->Rd w R x u
theorem nS (hm:BP B S w0 m) (l0:Bool) (R:Bool->Nat->Prop) (hR : ∀ l b,b<m.w.heap.size->safe B S m l b->R l b) (hL : ∀ s t g,live m s t->m.ν s t=some g->R l0 g)
  {c c':AV} {v:Value} (h:C5 m.own l0 c=some c') (hc:CV B S m c v):DA m.w R c' v:=by
 cases hc with
 | any v=>simp [C5,snap]at h
 | j9=>simp [C5,snap]at h
 | ca hc=>cases hc with
  | one hc =>
   have h':snap m.own l0 6 c=some c':=by
    cases hc with
    | rd hr=>cases hr<;>simpa [C5] using h
    | _=>simpa [C5] using h
   exact Or.inl (Zh hm l0 R hR hL 6 c c' v h' hc)
  | fn=>simp [C5,snap]at h
  | ve=>simp [C5,snap]at h
  | agg cs vs o4 =>
   simp only[C5]at h;cases jx:cs.mapM (snap m.own l0 6) with
   | none=>simp [jx]at h
   | some fx =>
    simp [jx]at h;subst h;obtain ⟨h1,h2⟩:=YQ _ jx;refine Or.inr ⟨fx,vs,rfl,rfl,h1.symm.trans o4.1,λ j x u hx hu => ?_⟩;have hj:j<cs.length:=by rw[h1];exact (zS hx).1
    obtain ⟨y,hy,ji⟩:=h2 j cs[j] (zE hj);rw[hx]at hy;obtain rfl:x=y:=by simpa using hy
    exact Zh hm l0 R hR hL 6 _ _ _ ji (o4.2 j cs[j] u (zE hj) hu)
def DV (w:World) (R:Bool->Nat->Prop) (c:AV) (v:Value):Prop :=
 DA w R c v \/ ∃ (cs:List AV) (vs:List Value),c = .j9 cs/\v = .tuple vs.toArray/\cs.length=vs.length /\ ∀ (j:Nat) (x:AV) (u:Value),cs[j]? = some x->vs[j]? = some u->DA w R x u
theorem Ang (hm:BP B S w0 m) (l0:Bool) (R:Bool->Nat->Prop) (hR : ∀ l b,b<m.w.heap.size->safe B S m l b->R l b) (hL : ∀ s t g,live m s t->m.ν s t=some g->R l0 g)
  {c c':AV} {v:Value} (h:Z2 m.own l0 c=some c') (hc:CV B S m c v):DV m.w R c' v:=by
 by_cases ht : ∃ cs,c = .j9 cs
 ·obtain ⟨cs,rfl⟩:=ht
  obtain ⟨vs,rfl,hl,aw⟩:=pZ hc;simp only[Z2]at h;cases jx:cs.mapM (C5 m.own l0) with
  | none=>simp [jx]at h
  | some fx =>
   simp [jx]at h;subst h;obtain ⟨h1,h2⟩:=YQ _ jx;refine Or.inr ⟨fx,vs,rfl,rfl,h1.symm.trans hl,λ j x u hx hu => ?_⟩;have hj:j<cs.length:=by rw[h1];exact (zS hx).1
   obtain ⟨y,hy,ji⟩:=h2 j cs[j] (zE hj);rw[hx]at hy;obtain rfl:x=y:=by simpa using hy
   exact nS hm l0 R hR hL ji (.ca (aw j cs[j] u (zE hj) hu))
 ·have h':C5 m.own l0 c=some c':=by
   cases c<;>first|exact h|exact absurd ⟨_,rfl⟩ ht
  exact Or.inl (nS hm l0 R hR hL h' hc)
theorem DA.ca {B:Nat} {S:Nat->Prop} {m:M} {c:AV} {v:Value} (h:DA m.w (safe B S m) c v):CA B S m c v:=by
 rcases h with h|⟨cs,vs,rfl,rfl,hl,hh⟩
 ·exact .one (.rd h)
 ·exact .agg cs vs ⟨hl,λ j x u hx hu => .rd (hh j x u hx hu)⟩
theorem DV.cv {B:Nat} {S:Nat->Prop} {m:M} {c:AV} {v:Value} (h:DV m.w (safe B S m) c v):CV B S m c v:=by
 rcases h with h|⟨cs,vs,rfl,rfl,hl,hh⟩
 ·exact .ca h.ca
 ·exact .j9 cs vs hl λ j x u hx hu=>(hh j x u hx hu).ca
theorem XL : ∀ {cs:List AV},CE cs -> ∀ (j:Nat) (c:AV),cs[j]? = some c->A0 c
 | [],_,j,c,h=>by simp at h
 | x::r,hc,j,c,h=>by
  unfold CE at hc;cases j with
  | zero=>simp at h;subst h;exact hc.1
  | succ j=>exact XL hc.2 j c (by simpa using h)
theorem kT : ∀ {cs:List (List AV)},FH cs -> ∀ (j:Nat) (c:List AV),cs[j]? = some c->CE c
 | [],_,j,c,h=>by simp at h
 | x::r,hc,j,c,h=>by
  unfold FH at hc;cases j with
  | zero=>simp at h;subst h;exact hc.1
  | succ j=>exact kT hc.2 j c (by simpa using h)
theorem Rd.clean {w:World} {R R':Bool->Nat->Prop} (hR : ∀ b,b<w.heap.size->R false b->R' false b) {c:AV} {v:Value} (h:Rd w R c v) (hc:A0 c):Rd w R' c v:=by
 induction h with
 | int k n=>exact .int k n
 | bool b=>exact .bool b
 | str s=>exact .str s
 | kz l a cap=>exact .kz l a cap
 | emp b a cap h=>exact .emp b a cap h
 | sl l es b o c6 cap u m9 hp h1 bj hz o4 hr ih =>
  unfold A0 at hc;obtain ⟨rfl,hc⟩:=hc;obtain ⟨e,c,he,ko⟩:=gQ m9 hp hz;have hb:b<w.heap.size:=aK (o4 0 e he 0 c ko);exact .sl false es b o c6 cap u m9 hp (hR b hb h1) bj hz o4 λ i e he j c hj=>ih i e he j c hj (XL (kT hc i e he) j c hj)
theorem DA.clean {w:World} {R R':Bool->Nat->Prop} (hR : ∀ b,b<w.heap.size->R false b->R' false b) {c:AV} {v:Value} (h:DA w R c v) (hc:A0 c):DA w R' c v:=by
 rcases h with h|⟨cs,vs,rfl,rfl,hl,hh⟩
 ·exact Or.inl (h.clean hR hc)
 ·unfold A0 at hc
  exact Or.inr ⟨cs,vs,rfl,rfl,hl,λ j x u hx hu=>(hh j x u hx hu).clean hR (XL hc j x hx)⟩
theorem DV.clean {w:World} {R R':Bool->Nat->Prop} (hR : ∀ b,b<w.heap.size->R false b->R' false b) {c:AV} {v:Value} (h:DV w R c v) (hc:A0 c):DV w R' c v:=by
 rcases h with h|⟨cs,vs,rfl,rfl,hl,hh⟩
 ·exact Or.inl (h.clean hR hc)
 ·unfold A0 at hc
  exact Or.inr ⟨cs,vs,rfl,rfl,hl,λ j x u hx hu=>(hh j x u hx hu).clean hR (XL hc j x hx)⟩
theorem pY {B:Nat} {S:Nat->Prop} {m:M} {c:AV} {v:Value} (h:CV B S m c v) (hc:A0 c):DV m.w (safe B S m) c v:=by
 have one : ∀ {c:AV} {v:Value},CC B S m c v->A0 c->Rd m.w (safe B S m) c v:=λ h hc=>by
  cases h with
  | rd h=>exact h
  | _=>unfold A0 at hc;exact hc.elim
 have ca : ∀ {c:AV} {v:Value},CA B S m c v->A0 c->DA m.w (safe B S m) c v:=λ h hc=>by
  cases h with
  | one h=>exact Or.inl (one h hc)
  | fn=>unfold A0 at hc;exact hc.elim
  | ve=>unfold A0 at hc;exact hc.elim
  | agg cs vs h =>
   unfold A0 at hc;exact Or.inr ⟨cs,vs,rfl,rfl,h.1,λ j x u hx hu=>one (h.2 j x u hx hu) (XL hc j x hx)⟩
 cases h with
 | any v=>unfold A0 at hc;exact hc.elim
 | ca h=>exact Or.inl (ca h hc)
 | j9 as vs hl h =>
  unfold A0 at hc;exact Or.inr ⟨as,vs,rfl,rfl,hl,λ j x u hx hu=>ca (h j x u hx hu) (XL hc j x hx)⟩
theorem nJ {f:Nat} {xs:Array Operand} {ts:Array TypeId} (m5:o.op = .call ⟨.value (.func f),xs,ts⟩) {w:World} (h:(callFunc f (xs.map a.eval)).run P w = .ok (.enter f (xs.map a.eval)) w):(execOp a.eval o).run P w = .ok (.enter f (xs.map a.eval)) w:=by
 simp [execOp,m5,resolve,Deferred.ofValue,Act.eval,invoke];exact h
theorem Rv {C:Cl} (hC:G8 P num C) (hm:BP B S w0 m) {f:Nat} {us:List Value} {as:List AV} (hl:us.length=as.length) (hx : ∀ (j:Nat) (v:Value) (c:AV),us[j]? = some v->as[j]? = some c->CV B S m c v) (hex : ∀ w:World,(callFunc (num f) us.toArray).run P w = .ok (.enter (num f) us.toArray) w->(execOp a.eval o).run P w = .ok (.enter (num f) us.toArray) w) {vs:List AV} {r:AV} (hv:as.mapM (C5 m.own true)=some vs) (hr:C.pure f vs=some r):CZ B S w0 P o a m (.val r):=by
 obtain ⟨ja,lk⟩:=YQ _ hv;have mv : ∀ (j:Nat) (c:AV) (v:Value),vs[j]? = some c->us[j]? = some v->CA m.w.heap.size (safe B S m false) ⟨λ_ _=>none,AH.emp,m.w⟩ c v:=by
  intro j c v hc vo;have dm:j<as.length:=by rw[<-hl];exact (zS vo).1
  obtain ⟨y,hy,ji⟩:=lk j as[j] (zE dm);rw[hc]at hy;obtain rfl:c=y:=by simpa using hy
  have af:=hx j v as[j] vo (zE dm);have vg:=nS hm true (safe m.w.heap.size (safe B S m false) ⟨λ_ _=>none,AH.emp,m.w⟩) (λ l b hb Aj=>by
   cases l with
   | false=>exact .inl ⟨Aj,hb⟩
   | true=>exact .inr (.inr ⟨rfl,hb⟩)) (λ s t g mg hg=>by
   obtain ⟨_,arr,e,hh⟩:=hm.ge mg hg;exact .inr (.inr ⟨rfl,(Array.getElem?_eq_some_iff.1 hh).1⟩)) ji af
  exact DA.ca (m:=⟨λ_ _=>none,AH.emp,m.w⟩) vg
 have gj:=hC.pure f vs r hr (safe B S m false) m.w us (by rw[<-ja];exact hl.symm) mv;intro K Q hK;unfold Oper.wp;rw[hex _ (hC.wk f vs r hr _ _)];refine Calls.mono gj λ e w' ⟨u,kp,kn,af,o4⟩ => ?_
 subst kp;obtain ⟨oe,ix⟩:=grow hm kn;refine hK u ⟨m.ν,m.own,w'⟩ rfl oe ix ?_;refine DV.cv (m:=⟨m.ν,m.own,w'⟩) ((pY af o4).clean (λ b hb Aj => ?_) o4);rcases Aj with ⟨h1,h2⟩|⟨h1,_⟩|⟨h1,_⟩
 ·exact ix.Cc false b h2 h1
 ·refine .inr (.inl ⟨Nat.le_trans hm.size h1,λ s t mg hg => ?_⟩)
  obtain ⟨b',m6⟩:=Option.isSome_iff_exists.1 mg;obtain ⟨_,arr,e,hh⟩:=hm.ge ⟨b',m6⟩ hg;have:=(Array.getElem?_eq_some_iff.1 hh).1
  omega
 ·cases h1
theorem Ru {C:Cl} (hC:G8 P num C) (hm:BP B S w0 m) (hs:CW B S m ρ a.eval) {f:Nat} {xs:Array Operand} {o9:List AQ} (he:EH xs.toList o9=true) (hex : ∀ w:World,(callFunc (num f) (xs.map a.eval)).run P w = .ok (.enter (num f) (xs.map a.eval)) w->(execOp a.eval o).run P w = .ok (.enter (num f) (xs.map a.eval)) w) {vs:List AV} {r:AV} (hv:(o9.map ρ).mapM (C5 m.own true)=some vs) (hr:C.pure f vs=some r):CZ B S w0 P o a m (.val r):=by
 obtain ⟨hl,hx⟩:=aT hs he;have jb:(xs.map a.eval)=(xs.toList.map a.eval).toArray:=by cases xs;simp
 rw[jb]at hex;refine Rv hC hm (us:=xs.toList.map a.eval) (as:=o9.map ρ) (by simp [hl]) (λ j v c h1 h2 => ?_) hex hv hr;rw[List.getElem?_map]at h1 h2;cases nc:xs.toList[j]? with
 | none=>simp [nc]at h1
 | some x =>
  cases qm:o9[j]? with
  | none=>simp [qm]at h2
  | some y =>
   simp only[nc,qm,Option.map_some,Option.some.injEq]at h1 h2;subst h1 h2;exact hx j x y nc qm
theorem Ahp {C:Cl} (hC:G8 P num C) (hm:BP B S w0 m) (hs:CW B S m ρ a.eval) {f:Nat} {o9:List AQ} (h:BD P num o.op (.call f o9)=true) {vs:List AV} {r:AV} (hv:(o9.map ρ).mapM (C5 m.own true)=some vs) (hr:C.pure f vs=some r):CZ B S w0 P o a m (.val r):=by
 obtain ⟨xs,ts,m5,he⟩:=sL h;exact Ru hC hm hs he (λ w h=>nJ m5 h) hv hr
theorem Rq {C:Cl} (hC:G8 P num C) (hm:BP B S w0 m) (hs:CW B S m ρ a.eval) {f:Nat} {o9:List AQ} (h:BD P num o.op (.j7 f o9)=true) {r:AV} {n0:AH} (hr:C.ju f (o9.map ρ) m.own=some (r,n0)):CZ B S w0 P o a m (.fk r n0):=by
 obtain ⟨xs,ts,m5,he⟩:=Ak3 h;obtain ⟨hl,hx⟩:=aT hs he;have jb:(xs.map a.eval)=(xs.toList.map a.eval).toArray:=by cases xs;simp
 have gj:=hC.ju f (o9.map ρ) m.own r n0 hr B S w0 m (xs.toList.map a.eval) rfl hm (by simp [hl]) (λ j c v hc hv=>by
  rw[List.getElem?_map]at hc hv;cases nc:xs.toList[j]? with
  | none=>simp [nc]at hv
  | some x =>
   cases qm:o9[j]? with
   | none=>simp [qm]at hc
   | some y =>
    simp [nc]at hv;simp [qm]at hc;subst hv hc;exact hx j x y nc qm)
 intro K Q hK;unfold Oper.wp;rw[nJ m5 (hC.re f _ _ _ hr _ _),jb];refine Calls.mono gj λ e w' ⟨u,m',kp,hw,m4,oe,ix,af⟩ => ?_
 subst kp hw;exact hK u m' m4 oe ix af
theorem Af0 (hm:BP B S w0 m) {w':World} (hb:Below m.w.heap.size m.w w') (s:Nat) (b:ED) (gg:Option Nat) (hz : ∀ x∈b.es,x.length=b.c6)
  (hg:match gg with|none=>b.es=[]|some g=>m.w.heap.size<=g /\ ∃ arr e,w'.heap[g]? = some (.cells arr e (0,0)) /\ ∀ i cs,b.es[i]? = some cs -> ∀ j c,cs[j]? = some c -> ∃ u,arr[i*b.c6+j]? = some u/\CC B S ⟨k7 m s gg,m.own.put s ((m.own s).new b),w'⟩ c u) :
  BP B S w0 ⟨k7 m s gg,m.own.put s ((m.own s).new b),w'⟩/\DM B S m ⟨k7 m s gg,m.own.put s ((m.own s).new b),w'⟩:=by
 have hν : ∀ s' t',live m s' t'->k7 m s gg s' t'=m.ν s' t':=λ s' t' hl=>by
  unfold k7;rw[if_neg];rintro ⟨rfl,rfl⟩
  exact mR hm _ hl
 have me : ∀ g,gg=some g->m.w.heap.size<=g:=λ g e=>by subst e;exact hg.1
 have he:DM B S m ⟨k7 m s gg,m.own.put s ((m.own s).new b),w'⟩:=by
  refine aX hm hb.size (λ k hk _=>hb.block k hk) (λ s' => ?_) (λ s' t' b' ht m6 => ?_) (λ s' t' g hl ga m7 => ?_)
  ·rw[SZ];split
   ·rename_i h;subst h;omega
   ·exact Nat.le_refl _
  ·rw[GD]at m6
   rw[if_neg (by rintro ⟨rfl,rfl⟩;omega)]at m6;refine ⟨b',m6,rfl,hν s' t' ⟨b',m6⟩,λ g ar e' ga ha=>⟨ar,?_,rfl⟩⟩;exact (hb.block g (Array.getElem?_eq_some_iff.1 ha).1).trans ha
  ·obtain ⟨b',m6⟩:=hl
   rw[GD]at m6;by_cases h:s'=s/\t'=m.own.k6 s
   ·simp only[k7,if_pos h]at ga
    have:=me g ga
    omega
   ·rw[if_neg h]at m6
    exact ⟨s',t',⟨b',m6⟩,by rw[<-hν s' t' ⟨b',m6⟩];exact ga⟩
 refine ⟨⟨hm.below.trans (hb.mono hm.size),Nat.le_trans hm.size hb.size,λ s' t' ht => ?_,λ s' t' b' m6 => ?_,λ s1 t1 s2 t2 b1 b2 g h1 h2 g1 g2 => ?_⟩,he⟩
 ·rw[SZ]at ht
  rw[GD,if_neg]
  ·refine hm.fresh s' t' ?_
   split at ht
   ·rename_i h;subst h;omega
   ·exact ht
  ·rintro ⟨rfl,rfl⟩
   simp at ht;omega
 ·rw[GD]at m6
  by_cases h:s'=s/\t'=m.own.k6 s
  ·rw[if_pos h]at m6
   obtain rfl:b=b':=by simpa using m6
   refine ⟨hz,?_⟩;show match k7 m s gg s' t' with|none=>_|some g=>_
   rw[show k7 m s gg s' t'=gg by simp [k7,h]];cases gg with
   | none=>exact hg
   | some g=>exact ⟨Nat.le_trans hm.size hg.1,hg.2⟩
  ·rw[if_neg h]at m6
   obtain ⟨h1,h2⟩:=hm.j5 s' t' b' m6;refine ⟨h1,?_⟩;show match k7 m s gg s' t' with|none=>_|some g=>_
   rw[hν s' t' ⟨b',m6⟩];cases hv:m.ν s' t' with
   | none=>rw[hv]at h2;exact h2
   | some g =>
    rw[hv]at h2;obtain ⟨h3,ar,e',h4,h5⟩:=h2;refine ⟨h3,ar,e',(hb.block g (Array.getElem?_eq_some_iff.1 h4).1).trans h4,λ i cs hi j c hj => ?_⟩;obtain ⟨u,hu,aw⟩:=h5 i cs hi j c hj;exact ⟨u,hu,he.cc aw⟩
 ·rw[GD]at h1 h2
  have lt : ∀ s' t' b',m.own.get s' t'=some b'->k7 m s gg s' t'=some g->g<m.w.heap.size:=λ s' t' b' m6 ga=>by
   rw[hν s' t' ⟨b',m6⟩]at ga;obtain ⟨_,ar,e',h4⟩:=hm.ge ⟨b',m6⟩ ga;exact (Array.getElem?_eq_some_iff.1 h4).1
  have at_ : ∀ s' t',s'=s/\t'=m.own.k6 s->k7 m s gg s' t'=some g->m.w.heap.size<=g:=λ s' t' h ga=>by
   simp only[k7,if_pos h]at ga;exact me g ga
  by_cases p1:s1=s/\t1=m.own.k6 s<;>by_cases p2:s2=s/\t2=m.own.k6 s
  ·exact ⟨p1.1.trans p2.1.symm,p1.2.trans p2.2.symm⟩
  ·rw[if_neg p2]at h2
   have:=lt s2 t2 b2 h2 g2
   have:=at_ s1 t1 p1 g1
   omega
  ·rw[if_neg p1]at h1
   have:=lt s1 t1 b1 h1 g1
   have:=at_ s2 t2 p2 g2
   omega
  ·rw[if_neg p1]at h1
   rw[if_neg p2]at h2;exact hm.inj s1 t1 s2 t2 b1 b2 g h1 h2 (by rw[<-hν s1 t1 ⟨b1,h1⟩];exact g1) (by rw[<-hν s2 t2 ⟨b2,h2⟩];exact g2)
theorem Aht {C:Cl} (hC:G8 P num C) (hm:BP B S w0 m) (hs:CW B S m ρ a.eval) {s f:Nat} {o9:List AQ} (h:BD P num o.op (.x9 s f o9)=true) {vs:List AV} (hv:(o9.map ρ).mapM (X3 m.own true)=some vs) {z:Nat} {es:List (List AV)} (hr:XC (C.ju f vs AH.emp)=some (z,es)) :
  CZ B S w0 P o a m (.new s ⟨z,es⟩ (λ t => .row s t z 0 es.length)):=by
 obtain ⟨xs,ts,m5,he⟩:=sL (Ak5 h);obtain ⟨s0,t0,o',b0,hin,q6,rfl,o4⟩:=AfZ hr;obtain ⟨hl,hx⟩:=aT hs he;obtain ⟨ja,lk⟩:=YQ _ hv;have jb:(xs.map a.eval)=(xs.toList.map a.eval).toArray:=by cases xs;simp
 have mv : ∀ (j:Nat) (c:AV) (v:Value),vs[j]? = some c->(xs.toList.map a.eval)[j]? = some v->CV m.w.heap.size (safe B S m false) ⟨λ_ _=>none,AH.emp,m.w⟩ c v:=by
  intro j c v hc vo;rw[List.getElem?_map]at vo;cases nc:xs.toList[j]? with
  | none=>simp [nc]at vo
  | some x =>
   simp [nc]at vo;subst vo;have dm:j<o9.length:=by rw[<-hl];exact (zS nc).1
   obtain ⟨y,hy,ji⟩:=lk j (ρ o9[j]) (by rw[List.getElem?_map,zE dm];rfl);rw[hc]at hy;obtain rfl:c=y:=by simpa using hy
   have af:=hx j x o9[j] nc (zE dm);have hN:(ρ o9[j] = .nil/\c = .nil)\/C5 m.own true (ρ o9[j])=some c:=by
    cases e:ρ o9[j] with
    | nil=>rw[e]at ji;exact .inl ⟨rfl,(Option.some.inj ji).symm⟩
    | _=>rw[e]at ji;exact .inr ji
   rcases hN with ⟨e1,rfl⟩|ji
   ·rw[e1]at af
    rw[ZH af];exact .ca (.one .nil)
   have vg:=nS hm true (safe m.w.heap.size (safe B S m false) ⟨λ_ _=>none,AH.emp,m.w⟩) (λ l b hb Aj=>by
    cases l with
    | false=>exact .inl ⟨Aj,hb⟩
    | true=>exact .inr (.inr ⟨rfl,hb⟩)) (λ s t g mg hg=>by
    obtain ⟨_,arr,e,hh⟩:=hm.ge mg hg;exact .inr (.inr ⟨rfl,(Array.getElem?_eq_some_iff.1 hh).1⟩)) ji af
   exact .ca (DA.ca (m:=⟨λ_ _=>none,AH.emp,m.w⟩) vg)
 have hm0:BP m.w.heap.size (safe B S m false) m.w ⟨λ_ _=>none,AH.emp,m.w⟩:=⟨Below.refl _ _,Nat.le_refl _,λ_ _ _=>rfl,(λ s t b h=>by cases h),(λ_ _ _ _ _ _ _ h=>by cases h)⟩;have gj:=hC.ju f vs AH.emp _ o' hin m.w.heap.size (safe B S m false) m.w ⟨λ_ _=>none,AH.emp,m.w⟩ (xs.toList.map a.eval) rfl hm0 (by rw[<-ja];simp [hl]) mv;intro K Q hK;unfold Oper.wp;rw[nJ m5 (hC.re f _ _ _ hin _ _),jb];refine Calls.mono gj λ e w' ⟨u,m',kp,hw,m4,oe,Aoy,af⟩ => ?_
 subst kp hw;have kn:Below m.w.heap.size m.w m'.w:=oe.below;rw[<-m4]at q6;obtain ⟨hz,ow⟩:=oe.j5 s0 t0 b0 q6;obtain ⟨ad,cap,rfl,ht,fg,qj,ha,hb⟩:=cR af;obtain ⟨jd,db⟩:=hb b0 q6;subst jd;have hold : ∀ s t g,live m s t->m.ν s t=some g->g<m.w.heap.size:=λ s t g mg hg=>by
  obtain ⟨_,arr,e,hh⟩:=hm.ge mg hg;exact (Array.getElem?_eq_some_iff.1 hh).1
 have Dl : ∀ s' t' g,live ⟨k7 m s (m'.ν s0 t0),m.own.put s ((m.own s).new ⟨b0.c6,b0.es⟩),m'.w⟩ s' t'->k7 m s (m'.ν s0 t0) s' t'=some g->g<m.w.heap.size\/m'.ν s0 t0=some g:=λ s' t' g mg hg=>by
  obtain ⟨b',m6⟩:=mg;rw[GD]at m6;by_cases l9:s'=s/\t'=m.own.k6 s
  ·simp only[k7,if_pos l9]at hg
   exact Or.inr hg
  ·rw[if_neg l9]at m6
   simp only[k7,if_neg l9]at hg;exact Or.inl (hold s' t' g ⟨b',m6⟩ hg)
 have hR : ∀ b,b<m'.w.heap.size->safe m.w.heap.size (safe B S m false) m' false b->safe B S ⟨k7 m s (m'.ν s0 t0),m.own.put s ((m.own s).new ⟨b0.c6,b0.es⟩),m'.w⟩ false b:=λ b zu Aj=>by
  rcases Aj with ⟨h1,h2⟩|⟨h1,h2⟩|⟨h1,_⟩
  ·rcases h1 with h1|⟨h1,h3⟩|⟨h1,_⟩
   ·exact .inl h1
   ·refine .inr (.inl ⟨h1,λ s' t' mg hg => ?_⟩)
    obtain ⟨b',m6⟩:=Option.isSome_iff_exists.1 mg;have x8:=m6;rw[GD]at x8;by_cases l9:s'=s/\t'=m.own.k6 s
    ·simp only[k7,if_pos l9]at hg
     rw[hg]at ow;have:=ow.1
     omega
    ·rw[if_neg l9]at x8
     simp only[k7,if_neg l9]at hg;exact h3 s' t' (by rw[x8];rfl) hg
   ·cases h1
  ·refine .inr (.inl ⟨Nat.le_trans hm.size h1,λ s' t' mg hg => ?_⟩)
   rcases Dl s' t' b (Option.isSome_iff_exists.1 mg) hg with h3|h3
   ·omega
   ·exact h2 s0 t0 (by rw[q6];rfl) h3
  ·cases h1
 obtain ⟨jt,ix⟩:=Af0 hm kn s ⟨b0.c6,b0.es⟩ (m'.ν s0 t0) hz (by
  cases hν:m'.ν s0 t0 with
  | none=>rw[hν]at ow;exact ow
  | some g =>
   rw[hν]at ow hR;obtain ⟨h1,arr,e,h2,h3⟩:=ow;refine ⟨h1,arr,e,h2,λ i cs hi j c hj => ?_⟩;obtain ⟨u,hu,aw⟩:=h3 i cs hi j c hj;refine ⟨u,hu,.rd ?_⟩;have wu:=XL (kT o4 i cs hi) j c hj;have og:Rd m'.w (safe m.w.heap.size (safe B S m false) m') c u:=by
    cases aw with
    | rd h=>exact h
    | _=>unfold A0 at wu;exact wu.elim
   exact og.clean hR wu)
 refine hK _ ⟨k7 m s (m'.ν s0 t0),m.own.put s ((m.own s).new ⟨b0.c6,b0.es⟩),m'.w⟩ rfl jt ix (.ca (.one (.row s (m.own.k6 s) b0.c6 0 b0.es.length ad cap (by show m.own.k6 s<AH.k6 (m.own.put s _) s;rw[SZ,if_pos rfl];omega) fg qj ha λ b1 rh => ?_)));have zt:(m.own.put s ((m.own s).new ⟨b0.c6,b0.es⟩)).get s (m.own.k6 s)=some b1:=rh;rw[GD,if_pos ⟨rfl,rfl⟩]at zt;obtain rfl:=Option.some.inj zt;refine ⟨rfl,?_⟩;rcases db with h0|⟨g,arr,e,hg,ni,hh,hle⟩
 ·exact .inl h0
 ·exact .inr ⟨g,arr,e,by simp [k7,hg],ni,hh,hle⟩
theorem zJ {p:Bool} {f g:Nat} {cs:List AV} {v:Value} (h:CV B S m (.fn p f g cs) v) (hp:p=false\/cs=[]) : ∃ vs:List Value,v = .func (.func g) #[] vs.toArray/\CL B S m cs vs:=by
 cases h with
 | ca h=>cases h with
  | one h=>cases h with
   | rd h=>cases h
  | fn p f g cs vs hp h=>exact ⟨vs,rfl,h⟩
  | ve f g cs vs m9 h =>
   rcases hp with hp|hp
   ·cases hp
   ·exact absurd hp m9
theorem AgR {f g:Nat} {cs:List AV} {v:Value} (h:CV B S m (.fn true f g cs) v) (m9:cs≠[]) : ∃ vs:List Value,v = .func (.func g) #[.agg vs.toArray] #[]/\CL B S m cs vs:=by
 cases h with
 | ca h=>cases h with
  | one h=>cases h with
   | rd h=>cases h
  | fn p f g cs vs hp h=>exact absurd (hp rfl) m9
  | ve f g cs vs m9 h=>exact ⟨vs,rfl,h⟩
theorem Vd {f:Nat} {x:Operand} {xs:Array Operand} {ts:Array TypeId} {vs:Array Value} (m5:o.op = .call ⟨.value x,xs,ts⟩) (hx:a.eval x = .func (.func f) #[] vs) {w:World} (h:(callFunc f (xs.map a.eval++vs)).run P w = .ok (.enter f (xs.map a.eval++vs)) w):(execOp a.eval o).run P w = .ok (.enter f (xs.map a.eval++vs)) w:=by
 simp [execOp,m5,resolve,Deferred.ofValue,hx,invoke];exact h
theorem Ahu {C:Cl} (hC:G8 P num C) (hm:BP B S w0 m) (hs:CW B S m ρ a.eval) {x':AQ} {o9:List AQ} (h:BD P num o.op (.o7 x' o9)=true) {f:Nat} {cs:List AV} (hf:ρ x' = .fn false f (num f) cs) {r:AV} {n0:AH} (hr:C.ju f (o9.map ρ++cs) m.own=some (r,n0)):CZ B S w0 P o a m (.fk r n0):=by
 obtain ⟨x,xs,ts,m5,rz,he⟩:=sM h;obtain ⟨hl,hx⟩:=aT hs he;obtain ⟨vs,hv,o4⟩:=zJ (hf ▸ hs x x' rz) (.inl rfl);have jb:(xs.map a.eval++vs.toArray)=(xs.toList.map a.eval++vs).toArray:=by cases xs;simp
 have gj:=hC.ju f (o9.map ρ++cs) m.own r n0 hr B S w0 m (xs.toList.map a.eval++vs) rfl hm (by simp [hl,o4.1]) (λ j c v hc hv=>by
  by_cases hj:j<o9.length
  ·rw[List.getElem?_append_left (by simpa using hj),List.getElem?_map]at hc
   rw[List.getElem?_append_left (by simpa [hl] using hj),List.getElem?_map]at hv;have hj2:j<xs.toList.length:=by rw[hl];exact hj
   rw[zE hj]at hc;rw[zE hj2]at hv;simp only[Option.map_some,Option.some.injEq]at hc hv;subst hc hv;exact hx j _ _ (zE hj2) (zE hj)
  ·rw[List.getElem?_append_right (by simpa using hj),List.length_map]at hc
   rw[List.getElem?_append_right (by simpa [hl] using hj),List.length_map,hl]at hv;exact .ca (.one (o4.2 _ c v hc hv)))
 intro K Q hK;unfold Oper.wp;rw[Vd m5 hv (hC.re f _ _ _ hr _ _),jb];refine Calls.mono gj λ e w' ⟨u,m',kp,hw,m4,oe,ix,af⟩ => ?_
 subst kp hw;exact hK u m' m4 oe ix af
theorem Ahr {C:Cl} (hC:G8 P num C) (hm:BP B S w0 m) (hs:CW B S m ρ a.eval) {x':AQ} {o9:List AQ} (h:BD P num o.op (.o7 x' o9)=true) {f:Nat} (hf:ρ x' = .fn true f (num f) []) {vs:List AV} {r:AV} (hv:(o9.map ρ).mapM (C5 m.own true)=some vs) (hr:C.pure f vs=some r):CZ B S w0 P o a m (.val r):=by
 obtain ⟨x,xs,ts,m5,rz,he⟩:=sM h;obtain ⟨us,hu,o4⟩:=zJ (hf ▸ hs x x' rz) (.inr rfl);have hu0:us=[]:=List.eq_nil_of_length_eq_zero (by rw[<-o4.1];rfl);subst hu0;refine Ru hC hm hs he (λ w h => ?_) hv hr;have:=Vd (P:=P) (w:=w) m5 hu (by simpa using h)
 simpa using this
theorem AmQ {f:Nat} {x:Operand} {xs:Array Operand} {ts:Array TypeId} {u:Value} (m5:o.op = .call ⟨.value x,xs,ts⟩) (hx:a.eval x = .func (.func f) #[u] #[]) {w:World} (h:(callFunc f (#[u]++xs.map a.eval)).run P w = .ok (.enter f (#[u]++xs.map a.eval)) w):(execOp a.eval o).run P w = .ok (.enter f (#[u]++xs.map a.eval)) w:=by
 simp [execOp,m5,resolve,Deferred.ofValue,hx,invoke];exact h
theorem Ahq {C:Cl} (hC:G8 P num C) (hm:BP B S w0 m) (hs:CW B S m ρ a.eval) {x':AQ} {o9:List AQ} (h:BD P num o.op (.o7 x' o9)=true) {f:Nat} {c:AV} {cs:List AV} (hf:ρ x' = .fn true f (num f) (c::cs)) {vs:List AV} {r:AV} (hv:(AV.agg (c::cs)::o9.map ρ).mapM (C5 m.own true)=some vs) (hr:C.pure f vs=some r):CZ B S w0 P o a m (.val r):=by
 obtain ⟨x,xs,ts,m5,rz,he⟩:=sM h;obtain ⟨us,hu,o4⟩:=AgR (hf ▸ hs x x' rz) (by simp);obtain ⟨hl,hx⟩:=aT hs he;have jb:(#[Value.agg us.toArray]++xs.map a.eval)=(Value.agg us.toArray::xs.toList.map a.eval).toArray:=by cases xs;simp
 refine Rv hC hm (us:=Value.agg us.toArray::xs.toList.map a.eval) (as:=AV.agg (c::cs)::o9.map ρ) (by simp [hl]) (λ j v c' h1 h2 => ?_) (λ w h=>by
  rw[<-jb]at h ⊢;exact AmQ m5 hu h) hv hr
 cases j with
 | zero =>
  simp only[List.getElem?_cons_zero,Option.some.injEq]at h1 h2;subst h1 h2;exact .ca (.agg _ _ o4)
 | succ j =>
  rw[List.getElem?_cons_succ,List.getElem?_map]at h1 h2;cases nc:xs.toList[j]? with
  | none=>simp [nc]at h1
  | some x =>
   cases qm:o9[j]? with
   | none=>simp [qm]at h2
   | some y =>
    simp only[nc,qm,Option.map_some,Option.some.injEq]at h1 h2;subst h1 h2;exact hx j x y nc qm
theorem AhJ (hm:BP B S w0 m) (hs:CW B S m ρ a.eval) {f:Nat} {x':AQ} (h:BD P num o.op (.tu f x')=true) {c:AV} {cs:List AV} (hc:ρ x' = .agg (c::cs)) :
  CZ B S w0 P o a m (.val (.fn true f (num f) (c::cs))):=by
 obtain ⟨x,m5,he⟩:=Alf h;obtain ⟨vs,hv,o4⟩:=fX (hc ▸ hs x x' he);refine EF hm (u := .func (.func (num f)) #[.agg vs.toArray] #[]) ?_ (.ca (.ve f (num f) (c::cs) vs (by simp) o4));simp [execOp,m5,Instr.makeFunc,hv]
theorem Rd.to1 {w:World} {R R':Bool->Nat->Prop} (hR : ∀ l b,b<w.heap.size->R l b -> ∀ l',R' l' b) {c:AV} {v:Value} (h:Rd w R c v) (hq:GS c=true):Rd w R' (eK c) v:=by
 cases h with
 | int k n=>exact .int k n
 | bool b=>exact .bool b
 | str s=>simp [GS]at hq
 | emp=>simp [GS]at hq
 | kz l a cap=>exact .kz false a cap
 | sl l es b o c6 cap u m9 hp h1 bj hz o4 hr =>
  obtain ⟨e,c,he,ko⟩:=gQ m9 hp hz;have hb:b<w.heap.size:=aK (o4 0 e he 0 c ko);exact .sl false es b o c6 cap u m9 hp (hR l b hb h1 false) bj hz o4 λ i e he j c hj=>(hr i e he j c hj).mono (λ l b hb h=>hR l b hb h l) (λ_ _ _ _=>rfl)
theorem Rd.Au {w:World} {R R':Bool->Nat->Prop} (hR : ∀ b,b<w.heap.size->R false b->R' true b) {c:AV} {v:Value} (h:Rd w R c v) (hc:A0 c) (hf:fD c):Rd w R' (iA c) v:=by
 cases h with
 | int k n=>exact .int k n
 | bool b=>exact .bool b
 | str s=>exact hf.elim
 | emp=>exact hf.elim
 | kz l a cap=>exact .kz true a cap
 | sl l es b o c6 cap u m9 hp h1 bj hz o4 hr =>
  unfold A0 at hc;obtain ⟨rfl,hc⟩:=hc;obtain ⟨e,c,he,ko⟩:=gQ m9 hp hz;have hb:b<w.heap.size:=aK (o4 0 e he 0 c ko);refine .sl true es b o c6 cap u m9 hp (hR b hb h1) bj hz o4 λ i e he j c hj => ?_
  have Np:=hf e (zM he) c (zM hj);have Dw:=hr i e he j c hj;generalize u i j=vv at Dw ⊢;cases Dw<;>first|exact .int _ _|exact .bool _|(simp [Ww]at Np)
theorem sR : ∀ l:List AV,TR l=l.map HT
 | []=>by simp [TR]
 | c::r=>by rw[TR,sR r];rfl
theorem Ub : ∀ l:List (List AV),gZ l=l.map λ e=>e.map HT
 | []=>by simp [gZ]
 | c::r=>by rw[gZ,Ub r,sR];rfl
theorem Rd.Av {w:World} {R R':Bool->Nat->Prop} (hR : ∀ b,b<w.heap.size->R false b->R' true b) {c:AV} {v:Value} (h:Rd w R c v):A0 c->Rd w R' (HT c) v:=by
 induction h with
 | int k n=>intro _;exact .int k n
 | bool b=>intro _;exact .bool b
 | str s=>intro _;exact .str s
 | emp b a cap h=>intro _;exact .emp b a cap h
 | kz l a cap=>intro _;exact .kz true a cap
 | sl l es b o c6 cap u m9 hp h1 bj hz o4 hr ih =>
  intro hc;unfold A0 at hc;obtain ⟨rfl,hc⟩:=hc;obtain ⟨e,c,he,ko⟩:=gQ m9 hp hz;have hb:b<w.heap.size:=aK (o4 0 e he 0 c ko);have ib : ∀ (i:Nat) (e':List AV),(es.map λ e:List AV=>e.map HT)[i]? = some e' -> ∃ e,es[i]? = some e/\e'=e.map HT:=λ i e' h=>by
   rw[List.getElem?_map]at h;cases hi:es[i]? with
   | none=>simp [hi]at h
   | some e=>exact ⟨e,rfl,by simpa [hi] using h.symm⟩
  have rf : ∀ (e:List AV) (j:Nat) (c':AV),(e.map HT)[j]? = some c' -> ∃ c,e[j]? = some c/\c'=HT c:=λ e j c' h=>by
   rw[List.getElem?_map]at h;cases hi:e[j]? with
   | none=>simp [hi]at h
   | some c=>exact ⟨c,rfl,by simpa [hi] using h.symm⟩
  have key:=Rd.sl (w:=w) (R:=R') true (es.map λ e:List AV=>e.map HT) b o c6 cap u (by simpa using m9) hp (hR b hb h1) (by simpa using bj)
   (λ e' kp=>by
    obtain ⟨e,he,rfl⟩:=List.mem_map.1 kp;rw[List.length_map];exact hz e he)
   (λ i e' hi j c' hj=>by
    obtain ⟨e,he,rfl⟩:=ib i e' hi;obtain ⟨c,zw,rfl⟩:=rf e j c' hj;exact o4 i e he j c zw)
   (λ i e' hi j c' hj=>by
    obtain ⟨e,he,rfl⟩:=ib i e' hi;obtain ⟨c,zw,rfl⟩:=rf e j c' hj;exact ih i e he j c zw (XL (kT hc i e he) j c zw))
  rw[List.length_map]at key;rw[HT,Ub];exact key
theorem Ahs {C:Cl} (hC:G8 P num C) (hm:BP B S w0 m) (hs:CW B S m ρ a.eval) {f:Nat} {o9:List AQ} (h:BD P num o.op (.n6 f o9)=true) (hq:(o9.map ρ).all dq=true) {r:AV} (hr:C.pure f ((o9.map ρ).map zh)=some r) (Mt:OS r\/cC r):CZ B S w0 P o a m (.val (TS r)):=by
 obtain ⟨xs,ts,m5,he⟩:=sL (Ak4 h);obtain ⟨hl,hx⟩:=aT hs he;have jb:(xs.map a.eval)=(xs.toList.map a.eval).toArray:=by cases xs;simp
 have hR : ∀ l b,b<m.w.heap.size->safe B S m l b -> ∀ l',safe m.w.heap.size (safe B S m true) ⟨λ_ _=>none,AH.emp,m.w⟩ l' b:=λ l b hb h l' => .inl ⟨uT h,hb⟩
 have hcell : ∀ (c:AV) (v:Value),CC B S m c v->GS c=true->Rd m.w (safe m.w.heap.size (safe B S m true) ⟨λ_ _=>none,AH.emp,m.w⟩) (eK c) v:=λ c v hc hd=>by
  cases hc with
  | rd hr=>exact hr.to1 hR hd
  | nil=>exact .kz false none 0
  | row=>simp [GS]at hd
  | ptr=>simp [GS]at hd
  | x7=>simp [GS]at hd
 have mv : ∀ (j:Nat) (c:AV) (v:Value),((o9.map ρ).map zh)[j]? = some c->(xs.toList.map a.eval)[j]? = some v->CA m.w.heap.size (safe B S m true) ⟨λ_ _=>none,AH.emp,m.w⟩ c v:=by
  intro j c v hc vo;rw[List.getElem?_map,List.getElem?_map]at hc;rw[List.getElem?_map]at vo;cases nc:xs.toList[j]? with
  | none=>simp [nc]at vo
  | some x =>
   cases qm:o9[j]? with
   | none=>simp [qm]at hc
   | some y =>
    simp [nc]at vo;simp [qm]at hc;subst vo hc;have af:=hx j x y nc qm;have hd:dq (ρ y)=true:=List.all_eq_true.1 hq _ (List.mem_map_of_mem (zM qm));generalize ρ y=cy at af hd ⊢;generalize a.eval x=vx at af ⊢;cases af with
    | any=>simp [dq,GS]at hd
    | j9=>simp [dq,GS]at hd
    | ca od =>
     cases od with
     | one Gl =>
      have qg:GS cy=true/\zh cy=eK cy:=by
       cases Gl with
       | rd hr=>cases hr<;>exact ⟨hd,rfl⟩
       | _=>exact ⟨hd,rfl⟩
      rw[qg.2];exact .one (.rd (hcell _ _ Gl qg.1))
     | agg cs vs o4 =>
      refine .agg (cs.map eK) vs ⟨by simpa using o4.1,λ k c' v' aj na => ?_⟩;rw[List.getElem?_map]at aj;cases ri:cs[k]? with
      | none=>simp [ri]at aj
      | some c0 =>
       simp [ri]at aj;subst aj;exact .rd (hcell c0 v' (o4.2 k c0 v' ri na) (List.all_eq_true.1 hd _ (zM ri)))
     | fn=>simp [dq,GS]at hd
     | ve=>simp [dq,GS]at hd
 have gj:=hC.pure f _ r hr (safe B S m true) m.w (xs.toList.map a.eval) (by simp [hl]) mv;intro K Q hK;unfold Oper.wp;rw[nJ m5 (hC.wk f _ r hr _ _),jb];refine Calls.mono gj λ e w' ⟨u,kp,kn,af,o4⟩ => ?_
 subst kp;obtain ⟨oe,ix⟩:=grow hm kn;refine hK u ⟨m.ν,m.own,w'⟩ rfl oe ix ?_;have km : ∀ b,b<w'.heap.size->safe m.w.heap.size (safe B S m true) ⟨λ_ _=>none,AH.emp,w'⟩ false b->safe B S ⟨m.ν,m.own,w'⟩ true b:=λ b hb Aj=>by
  rcases Aj with ⟨h1,h2⟩|⟨h1,_⟩|⟨h1,_⟩
  ·exact ix.Cc true b h2 h1
  ·refine .inr (.inl ⟨Nat.le_trans hm.size h1,λ s t mg hg => ?_⟩)
   obtain ⟨b',m6⟩:=Option.isSome_iff_exists.1 mg;obtain ⟨_,arr,e,hh⟩:=hm.ge ⟨b',m6⟩ hg;have:=(Array.getElem?_eq_some_iff.1 hh).1
   omega
  ·cases h1
 by_cases fo:OS r
 ·rw[sS fo]
  rcases pY af o4 with vg|⟨cs,vs,rfl,_⟩
  ·rcases vg with og|⟨cs,vs,rfl,rfl,ja,hh⟩
   ·have e1:An r=iA r/\fD r:=by cases og<;>exact ⟨rfl,fo⟩
    rw[show CG.valOf (.val (An r)) m.own=An r from rfl,e1.1];exact .ca (.one (.rd (og.Au km o4 e1.2)))
   ·unfold A0 at o4
    refine .ca (.agg (cs.map iA) vs ⟨by simpa using ja,λ k c' v' aj na => ?_⟩);rw[List.getElem?_map]at aj;cases ri:cs[k]? with
    | none=>simp [ri]at aj
    | some c0 =>
     simp [ri]at aj;subst aj;exact .rd ((hh k c0 v' ri na).Au km (XL o4 k c0 ri) (fo c0 (zM ri)))
  ·exact fo.elim
 ·rw[Uc fo]
  have hd:=Mt.resolve_left fo;rcases pY af o4 with vg|⟨cs,vs,rfl,_⟩
  ·rcases vg with og|⟨cs,vs,rfl,rfl,ja,hh⟩
   ·have e1:XV r=HT r:=by cases og<;>rfl
    rw[show CG.valOf (.val (XV r)) m.own=XV r from rfl,e1];exact .ca (.one (.rd (og.Av km o4)))
   ·unfold A0 at o4
    rw[show CG.valOf (.val (XV (.agg cs))) m.own = .agg (TR cs) from rfl,sR];refine .ca (.agg (cs.map HT) vs ⟨by simpa using ja,λ k c' v' aj na => ?_⟩);rw[List.getElem?_map]at aj;cases ri:cs[k]? with
    | none=>simp [ri]at aj
    | some c0 =>
     simp [ri]at aj;subst aj;exact .rd ((hh k c0 v' ri na).Av km (XL o4 k c0 ri))
  ·exact hd.elim
end
end Go.e8

namespace Go.e8
open Go.RowKit
section
variable {B:Nat} {S:Nat->Prop} {w0:World} {m:M}
variable {P:Program} {num:Nat->Nat} {o:Oper} {a:Act} {ρ:AQ->AV} {C:Cl} {g7:List Nat}
theorem AhM (hm:BP B S w0 m) (hs:CW B S m ρ a.eval) {mx:Bool} {o9:List AQ} (h:BD P num o.op (.mm mx o9)=true) {v r:AV} {l:List AV} (hx:o9.map ρ=v::l) (hv:PM mx v l=some r):CZ B S w0 P o a m (.val r):=by
 by_cases hi : ∃ k n,v = .int k n
 ·exact AhL hm hs h hx hv hi
 ·cases l with
  | cons u q =>
   simp only[PM]at hv;exfalso;cases v<;>first|(exact hi ⟨_,_,rfl⟩)|(simp [YT]at hv)
  | nil =>
   simp only[PM,Option.some.injEq]at hv;subst hv;obtain ⟨xs,ts,m5,he⟩:=Th h;cases o9 with
   | nil=>simp at hx
   | cons y yr =>
    simp only[List.map_cons,List.cons.injEq,List.map_eq_nil_iff]at hx;obtain ⟨rfl,rfl⟩:=hx;obtain ⟨xl⟩:=xs;cases xl with
    | nil=>simp [EH]at he
    | cons x xr =>
     simp only[EH,Bool.and_eq_true]at he;cases xr with
     | cons=>simp [EH]at he
     | nil =>
      refine EF hm (u:=a.eval x) ?_ (hs x y he.1);cases mx<;>simp [execOp,m5,resolve,invoke,builtin,Builtin.min_,Builtin.max_]
theorem Us (o:AH) (l:List Nat) (s t:Nat) (b:ED) (h:(o.n7 l).get s t=some b):o.get s t=some b:=by
 induction l with
 | nil=>exact h
 | cons x r ih =>
  unfold AH.get AH.n7 at h;by_cases hs:s=x
  ·simp [hs]at h
  ·simp only[if_neg hs]at h
   exact ih h
theorem Alv {o:AH} {l:List Nat} {s t i j n:Nat} {cs:List AV} (h:(o.n7 l).sf s t i j n=some cs):o.sf s t i j n=some cs:=by
 unfold AH.sf at *;cases hg:(o.n7 l).get s t with
 | none=>simp [hg]at h
 | some b =>
  rw[Us o l s t b hg];simpa [hg] using h
theorem Aix {o:AH} {l:List Nat} {v:AV} {es:List (List AV)} (h:EQ (o.n7 l) v=some es):EQ o v=some es:=by
 cases v with
 | ep v=>cases v<;>exact h
 | row s t z off len =>
  simp only[EQ]at h ⊢;cases hg:(o.n7 l).get s t with
  | none=>simp [hg]at h
  | some b =>
   rw[Us o l s t b hg];simpa [hg] using h
 | _=>exact h
theorem dQ {α β:Type} {f g:α->Option β} (hfg : ∀ x y,f x=some y->g x=some y) : ∀ {l:List α} {l':List β},l.mapM f=some l'->l.mapM g=some l'
 | [],l',h=>by simpa using h
 | x::r,l',h=>by
  simp only[List.mapM_cons,Option.bind_eq_bind,Option.pure_def]at h ⊢;cases hx:f x with
  | none=>simp [hx]at h
  | some y =>
   cases hr:r.mapM f with
   | none=>simp [hx,hr]at h
   | some r' =>
    simp [hx,hr]at h;simp [hfg x y hx,dQ hfg hr,h]
theorem vH (o:AH) (l:List Nat) (b:Bool) : ∀ (d:Nat) (c c':AV),snap (o.n7 l) b d c=some c'->snap o b d c=some c'
 | 0,c,c',h=>by cases c<;>simp_all [snap]
 | d+1,c,c',h=>by
  cases c<;>first|(simp_all [snap];done)|skip
  rename_i s t z off len;simp only[snap]at h ⊢;cases he:EQ (o.n7 l) (.row s t z off len) with
  | none=>simp [he]at h
  | some es =>
   simp only[he]at h;rw[Aix he];simp only[Option.map_eq_some_iff]at h ⊢;obtain ⟨es',h1,h2⟩:=h;exact ⟨es',dQ (λ x y hx=>dQ (vH o l b d) hx) h1,h2⟩
theorem Zc (o:AH) (l:List Nat) (b:Bool) (c c':AV) (h:C5 (o.n7 l) b c=some c'):C5 o b c=some c':=by
 cases c<;>first|exact vH o l b 6 _ _ h|skip
 simp only[C5,Option.map_eq_some_iff]at h ⊢;obtain ⟨cs,h1,h2⟩:=h;exact ⟨cs,dQ (vH o l b 6) h1,h2⟩
theorem Anf (o:AH) (l:List Nat) (b:Bool) (c c':AV) (h:X3 (o.n7 l) b c=some c'):X3 o b c=some c':=by
 rcases Classical.em (c = .nil) with rfl|hc
 ·exact h
 ·have e : ∀ o:AH,X3 o b c=C5 o b c:=λ o=>by cases c<;>first|rfl|exact (hc rfl).elim
  rw[e]at h ⊢;exact Zc o l b _ _ h
theorem AlH {o:AH} {l:List Nat} {b:Bool} {xs vs:List AV} (h:xs.mapM (X3 (o.n7 l) b)=some vs):xs.mapM (X3 o b)=some vs:=dQ (Anf o l b) h
theorem AlF {o:AH} {l:List Nat} {b:Bool} {xs vs:List AV} (h:xs.mapM (C5 (o.n7 l) b)=some vs):xs.mapM (C5 o b)=some vs:=dQ (Zc o l b) h
theorem Ant {own n0:AH} {s t i j:Nat} {vs:List AV} (h:own.nv s t i j vs=some n0):own.put s (n0 s)=n0:=by
 unfold AH.nv at h;cases hg:own.get s t with
 | none=>simp [hg]at h
 | some b =>
  simp only[hg]at h;cases he:b.es[i]? with
  | none=>simp [he]at h
  | some cs =>
   simp only[he]at h;split at h
   ·obtain rfl:=Option.some.inj h
    rw[AH.k9]
   ·cases h
theorem Aiv (hC:G8 P num C) (hm:BP B S w0 m) (hs:CW B S m ρ a.eval) {Ed:D4} (k8:BD P num o.op Ed=true) {E:CG} (h:j6 C g7 ρ m.own Ed=some E):CZ B S w0 P o a m E:=by
 cases Ed with
 | b9 x=>simp only[j6,Option.some.injEq]at h;subst h;exact AhN hm hs k8
 | ag s z=>simp only[j6,Option.some.injEq]at h;subst h;exact AhT hm k8
 | pick c x y =>
  simp only[j6]at h;split at h
  ·rename_i hc;simp only[Option.some.injEq]at h;subst h;exact Rt hm hs k8 hc
  ·rename_i hc;simp only[Option.some.injEq]at h;subst h;exact Rt hm hs k8 hc
  ·cases h
 | bin f x y =>
  simp only[j6]at h;split at h
  ·rename_i k n k' n' hx hy
   simp only[Option.map_eq_some_iff]at h;obtain ⟨v,hv,rfl⟩:=h;exact Ahl hm hs k8 hx hy hv
  ·cases h
 | tv ne n x y =>
  simp only[j6]at h;split at h
  ·rename_i cs ds hx hy
   split at h
   ·rename_i a b ha hb
    split at h
    ·rename_i hn
     simp only[Option.some.injEq]at h;subst h;exact Ahf hm hs k8 hx hy ha hb hn
    ·cases h
   ·cases h
  ·cases h
 | beq ne x y =>
  simp only[j6]at h;split at h
  ·rename_i b b' hx hy
   simp only[Option.some.injEq]at h;subst h;exact Ahk hm hs k8 hx hy
  ·cases h
 | un f x =>
  simp only[j6,Option.map_eq_some_iff]at h;obtain ⟨v,hv,rfl⟩:=h;exact AhS hm hs k8 hv
 | conv k x =>
  simp only[j6]at h;split at h
  ·rename_i k' n hx
   simp only[Option.some.injEq]at h;subst h;exact Ahw hm hs k8 hx
  ·cases h
 | box s x =>
  simp only[j6]at h;split at h
  ·rename_i cs jx
   simp only[Option.some.injEq]at h;subst h;exact Ahm hm hs k8 jx
  ·cases h
 | alloc s z=>simp only[j6,Option.some.injEq]at h;subst h;exact Ahg hm k8
 | build z ps =>
  simp only[j6,Option.map_eq_some_iff]at h;obtain ⟨cs,jx,rfl⟩:=h;exact Aho hm hs k8 jx
 | g8 s c6 ps =>
  simp only[j6]at h;split at h
  ·rename_i es kt
   split at h
   ·rename_i hz
    simp only[Option.some.injEq]at h;subst h;exact Ahn hm hs k8 kt hz
   ·cases h
  ·cases h
 | a7 x off =>
  simp only[j6]at h;split at h
  ·rename_i s t i j hx
   simp only[Option.some.injEq]at h;subst h;exact Ahz hm hs k8 hx
  ·rename_i cs hx
   simp only[Option.some.injEq]at h;subst h;exact Ahy hm hs k8 hx
  ·cases h
 | qa x off n agg =>
  simp only[j6]at h;split at h
  ·rename_i cs hx
   split at h
   ·rename_i ds hp
    simp only[Option.map_eq_some_iff]at h;obtain ⟨v,hv,rfl⟩:=h;exact AhA hm hs k8 hx hp hv
   ·cases h
  ·cases h
 | a5 arr c6 x i =>
  simp only[j6]at h;split at h
  ·rename_i k n hi
   split at h
   ·rename_i len s t i' j hx
    split at h
    ·rename_i hn
     simp only[Option.some.injEq]at h;subst h;exact AhB hm hs k8 hi hx hn.1 hn.2
    ·cases h
   ·rename_i len cs hx
    split at h
    ·rename_i hn
     simp only[Option.some.injEq]at h;subst h;exact AhC hm hs k8 hi hx hn.1 hn.2
    ·cases h
   ·rename_i s t z off len hx
    split at h
    ·rename_i hn
     simp only[Option.some.injEq]at h;subst h;exact AhD hm hs k8 hi hx hn.1 hn.2.1 hn.2.2
    ·cases h
   ·rename_i l es hx
    split at h
    ·rename_i h0
     split at h
     ·rename_i cs jx
      split at h
      ·rename_i hz
       simp only[Option.some.injEq]at h;subst h;exact AhE hm hs k8 hi hx h0 jx hz
      ·cases h
     ·cases h
    ·cases h
   ·cases h
  ·cases h
 | idx len c6 agg x i =>
  simp only[j6]at h;split at h
  ·rename_i k n cs hi hx
   split at h
   ·rename_i hn
    split at h
    ·rename_i ds hp
     simp only[Option.map_eq_some_iff]at h;obtain ⟨v,hv,rfl⟩:=h;exact AhF hm hs k8 hi hx hn.1 hn.2 hp hv
    ·cases h
   ·cases h
  ·cases h
 | ld agg n x =>
  simp only[j6]at h;split at h
  ·rename_i s t i j hx
   split at h
   ·rename_i cs jx
    simp only[Option.map_eq_some_iff]at h;obtain ⟨v,hv,rfl⟩:=h;exact AhG hm hs k8 hx (Alv jx) hv
   ·cases h
  ·rename_i cs hx
   split at h
   ·rename_i ds hp
    simp only[Option.map_eq_some_iff]at h;obtain ⟨v,hv,rfl⟩:=h;exact Rs hm hs k8 hx hp hv
   ·cases h
  ·cases h
 | vu agg n x =>
  simp only[j6]at h;split at h
  ·rename_i cs hx
   split at h
   ·rename_i ds hp
    simp only[Option.map_eq_some_iff]at h;obtain ⟨v,hv,rfl⟩:=h;exact Rs hm hs (show BD P num _ (.ld agg n x)=true from k8) hx hp hv
   ·cases h
  ·cases h
 | st n x v =>
  simp only[j6]at h;split at h
  ·rename_i s t i j vs hx jo
   split at h
   ·rename_i hn
    simp only[Option.map_eq_some_iff]at h;obtain ⟨n0,ho,rfl⟩:=h;exact Rx hm hs k8 hx jo hn ho
   ·cases h
  ·cases h
 | mk s c6 bytes zero l c =>
  simp only[j6]at h;split at h
  ·rename_i kl a' kc b' hl hc
   split at h
   ·rename_i hn
    simp only[Option.some.injEq]at h;subst h;exact AhI hm hs k8 hl hc hn.1 hn.2.1 hn.2.2.1 hn.2.2.2.1 hn.2.2.2.2
   ·cases h
  ·cases h
 | jq c6 x lo hi =>
  simp only[j6]at h;have bnd : ∀ (d:Nat) (y:Option AQ) (q:Nat),(match y with|none=>some d|some o=>match ρ o with | .int _ n=>if 0<=n/\n<=d then some n.toNat else none|_=>none)=some q -> ∃ n:Int,HQ ρ d y=some n/\0<=n/\n<=d/\q=n.toNat:=λ d y q hq=>by
   cases y with
   | none=>simp only[Option.some.injEq]at hq;subst hq;exact ⟨d,rfl,by omega,by omega,by simp⟩
   | some y =>
    simp only at hq;cases hy:ρ y with
    | int k n =>
     simp only[hy]at hq;split at hq
     ·rename_i hn
      simp only[Option.some.injEq]at hq;subst hq;exact ⟨n,by simp [HQ,hy],hn.1,hn.2,rfl⟩
     ·cases hq
    | _=>simp [hy]at hq
  have Fo : ∀ (y:Option AQ) (q:Nat),(match y with|none=>some 0|some o=>match ρ o with | .int _ n=>if 0<=n then some n.toNat else none|_=>none)=some q -> ∃ n:Int,HQ ρ 0 y=some n/\0<=n/\q=n.toNat:=λ y q hq=>by
   cases y with
   | none=>simp only[Option.some.injEq]at hq;subst hq;exact ⟨0,rfl,by omega,by simp⟩
   | some y =>
    simp only at hq;cases hy:ρ y with
    | int k n =>
     simp only[hy]at hq;split at hq
     ·rename_i hn
      simp only[Option.some.injEq]at hq;subst hq;exact ⟨n,by simp [HQ,hy],hn,rfl⟩
     ·cases hq
    | _=>simp [hy]at hq
  have Fp : ∀ (y:Option AQ) (q:Nat),(match y with|none=>some 0|some o=>match ρ o with | .int _ n=>if n=0 then some 0 else none|_=>none)=some q->HQ ρ 0 y=some 0:=λ y q hq=>by
   cases y with
   | none=>rfl
   | some y =>
    simp only at hq;cases hy:ρ y with
    | int k n =>
     simp only[hy]at hq;split at hq
     ·rename_i hn
      subst hn;simp [HQ,hy]
     ·cases hq
    | _=>simp [hy]at hq
  split at h
  ·rename_i l es hx
   split at h
   ·rename_i q1 q2 h1 h2
    split at h
    ·rename_i hq
     simp only[Option.some.injEq]at h;subst h;obtain ⟨n1,b1,c1,rfl⟩:=Fo _ _ h1;obtain ⟨n2,b2,c2,c3,rfl⟩:=bnd _ _ _ h2;exact AhR hm hs k8 hx b1 b2 c1 (by omega) c3 hq.2
    ·cases h
   ·cases h
  ·rename_i hx
   split at h
   ·rename_i q1 q2 h1 h2
    simp only[Option.some.injEq]at h;subst h;exact AhP hm hs k8 hx (Fp _ _ h1) (Fp _ _ h2)
   ·cases h
  ·rename_i s t z off len hx
   split at h
   ·rename_i q1 q2 h1 h2
    split at h
    ·rename_i hq
     simp only[Option.some.injEq]at h;subst h;obtain ⟨n1,b1,c1,rfl⟩:=Fo _ _ h1;obtain ⟨n2,b2,c2,c3,rfl⟩:=bnd _ _ _ h2;exact AhQ hm hs k8 hx b1 b2 c1 (by omega) c3 hq.2
    ·cases h
   ·cases h
  ·cases h
 | ext x i =>
  simp only[j6]at h;split at h
  ·rename_i vs hx
   simp only[Option.map_eq_some_iff]at h;obtain ⟨v,hv,rfl⟩:=h;exact Ahx hm hs k8 hx hv
  ·cases h
 | len x =>
  simp only[j6]at h;split at h
  ·rename_i n hn
   simp only[Option.some.injEq]at h;subst h;exact AhH hm hs k8 hn
  ·cases h
 | mm mx xs =>
  simp only[j6]at h;split at h
  ·cases h
  ·rename_i v r hx
   simp only[Option.map_eq_some_iff]at h;obtain ⟨q,hq,rfl⟩:=h;exact AhM hm hs k8 hx hq
 | app s c6 bytes x y =>
  simp only[j6]at h;split at h
  ·rename_i ys xy
   split at h
   ·rename_i hz
    split at h
    ·rename_i s' t z len hx
     split at h
     ·rename_i b hb
      split at h
      ·rename_i hn
       obtain ⟨n1,rfl,n3,n4,n5⟩:=hn;simp only[Option.some.injEq]at h;subst h;exact Ahi hm hs k8 xy hz hx hb n1 n3 n4 n5
      ·cases h
     ·cases h
    ·rename_i hx
     split at h
     ·rename_i hn
      simp only[Option.some.injEq]at h;subst h;exact Ahh hm hs k8 xy hz hx hn.1 hn.2
     ·cases h
    ·cases h
   ·cases h
  ·cases h
 | call f xs =>
  simp only[j6]at h;split at h
  ·rename_i vs jo
   simp only[Option.map_eq_some_iff]at h;obtain ⟨r,hr,rfl⟩:=h;exact Ahp hC hm hs k8 (AlF jo) hr
  ·cases h
 | j7 f xs =>
  simp only[j6,Option.map_eq_some_iff]at h;obtain ⟨r,hr,rfl⟩:=h;exact Rq hC hm hs k8 hr
 | vb ne x =>
  simp only[j6]at h;split at h
  ·rename_i hx
   simp only[Option.some.injEq]at h;subst h;exact lG hm hs k8 (b:=true) λ v hv=>by rw[hx]at hv;exact ⟨none,0,0,ZH hv,rfl⟩
  ·rename_i b hx
   simp only[Option.some.injEq]at h;subst h;exact lG hm hs k8 (b:=b) λ v hv=>by
    rw[hx]at hv;obtain ⟨ad,c,h1,h2⟩:=zI hv;exact ⟨ad,0,c,h1,h2⟩
  ·rename_i hx
   simp only[Option.some.injEq]at h;subst h;exact lG hm hs k8 (b:=false) λ v hv=>by rw[hx]at hv;exact AgU hv
  ·rename_i hx
   simp only[Option.some.injEq]at h;subst h;exact lG hm hs k8 (b:=false) λ v hv=>by rw[hx]at hv;exact AgT hv
  ·cases h
 | bad =>
  have h:(none:Option CG)=some E:=h;cases h
 | gf x =>
  simp only[j6]at h;split at h
  ·rename_i hx
   simp only[Option.some.injEq]at h;subst h;exact Ahv hm hs k8 hx
  ·cases h
 | dv s f xs =>
  simp only[j6,Option.map_eq_some_iff]at h;obtain ⟨p,hp,rfl⟩:=h;exact Rq hC hm hs (Ak6 k8) (kP.1 hp m.own rfl)
 | pz s c6 bytes x y =>
  simp only[j6]at h;split at h
  ·rename_i k n hx hy
   split at h
   ·rename_i hn
    simp only[Option.some.injEq]at h;subst h;exact Ahj hm hs k8 hx hy hn.1 hn.2.1 hn.2.2
   ·cases h
  ·cases h
 | jg tb x =>
  simp only[j6]at h;split at h
  ·rename_i k n hx
   split at h
   ·rename_i h0
    split at h
    ·rename_i v hv
     simp only[Option.some.injEq]at h;subst h;exact AhO hm hs k8 hx h0 hv
    ·cases h
   ·cases h
  ·cases h
 | si p f xs =>
  simp only[j6,Option.map_eq_some_iff]at h;obtain ⟨cs,jx,rfl⟩:=h;rw[hC.num];exact AhK hm hs k8 jx
 | tu f x =>
  simp only[j6]at h;split at h
  ·rename_i c cs hx
   simp only[Option.some.injEq]at h;subst h;rw[hC.num];exact AhJ hm hs k8 hx
  ·cases h
 | n6 f xs =>
  simp only[j6]at h;split at h
  ·rename_i hq
   split at h
   ·rename_i r hr
    split at h
    ·rename_i fo
     simp only[Option.some.injEq]at h;subst h;exact Ahs hC hm hs k8 hq hr fo
    ·cases h
   ·cases h
  ·cases h
 | x9 s f xs =>
  simp only[j6]at h;split at h
  ·rename_i vs jo
   simp only[Option.map_eq_some_iff]at h;obtain ⟨⟨z,es⟩,hr,rfl⟩:=h;exact Aht hC hm hs k8 (AlH jo) hr
  ·cases h
 | px s n x v =>
  simp only[j6]at h;split at h
  ·rename_i s' t i j vs hx jo
   split at h
   ·rename_i hn
    obtain ⟨rfl,hn⟩:=hn;simp only[Option.map_eq_some_iff]at h;obtain ⟨n0,ho,rfl⟩:=h;have:=Rx hm hs (All k8) hx jo hn ho
    intro K Q hK;refine this K Q λ u m' h1 h2 h3 h4=>hK u m' ?_ h2 h3 h4
    rw[h1];exact (Ant ho).symm
   ·cases h
  ·cases h
 | o7 x xs =>
  simp only[j6]at h;split at h
  ·rename_i p f g cs hx
   split at h
   ·rename_i hg
    rw[hC.num]at hg;subst hg;split at h
    ·split at h
     ·rename_i vs jo
      simp only[Option.map_eq_some_iff]at h;obtain ⟨r,hr,rfl⟩:=h;exact Ahr hC hm hs k8 hx jo hr
     ·cases h
    ·simp only[Option.map_eq_some_iff]at h
     obtain ⟨r,hr,rfl⟩:=h;exact Ahu hC hm hs k8 hx hr
    ·split at h
     ·rename_i vs jo
      simp only[Option.map_eq_some_iff]at h;obtain ⟨r,hr,rfl⟩:=h;exact Ahq hC hm hs k8 hx jo hr
     ·cases h
   ·cases h
  ·cases h
end
end Go.e8

namespace Go.e8
open Go.RowKit
def EL (T:Nat->AV):AQ->AV
 | .t n=>T n
 | .c v=>v
def J9 (T:Nat->AV) (d:Option Nat) (v:AV):Nat->AV:=λ j=>if d=some j then v else T j
def TD (T:Nat->AV):Option (Nat × Bool)->Option Bool
 | none=>some true
 | some (g,want)=>match T g with
  | .bool b=>some (b == want)
  | .j9 []=>some false
  | _=>none
theorem Qx (st:St):st.ev=EL (j8 st.tm):=by funext x;cases x<;>rfl
theorem Akp (st:St) (g:Option (Nat × Bool)):FL st g=TD (j8 st.tm) g:=rfl
theorem Sg (st:St) (d:Option Nat) (v:AV):j8 (st.dst d v).tm=J9 (j8 st.tm) d v:=by
 cases d with
 | none=>funext j;simp [St.dst,J9]
 | some d =>
  funext j
  simp only[St.dst,J9,jH];by_cases h:j=d
  ·simp [h]
  ·simp [h,Ne.symm h]
theorem Af5 (st:St) (d:Option Nat) (E:CG):j8 (st.app d E).tm=J9 (j8 st.tm) d (E.valOf st.own):=by
 cases E<;>simp only[St.app,CG.valOf]<;>exact Sg st d _
theorem Sh (st:St) (d:Option Nat) (v:AV):(st.dst d v).own=st.own:=by cases d<;>rfl
theorem Af4 (st:St) (d:Option Nat) (E:CG):(st.app d E).own=E.ax st.own:=by
 cases E with
 | val v=>simp only[St.app,CG.ax];exact Sh st d v
 | _=>rfl
section
variable {B:Nat} {S:Nat->Prop} {w0:World} {m0:M} {N:Nat}
variable {P:Program} {num:Nat->Nat} {C:Cl} {Q:Exit->Act->World->Prop}
structure FM (B:Nat) (S:Nat->Prop) (w0:World) (m0:M) (N:Nat) (T:Nat->AV) (m:M) (a:Act):Prop where
 mem:BP B S w0 m
 ext:DM B S m0 m
 tm : ∀ i,CV B S m (T i) (a.tmps.getD i undef)
 size:a.tmps.size=N
 defers:a.defers=[]
theorem FM.put {T:Nat->AV} {m m':M} {a:Act} (h:FM B S w0 m0 N T m a) (d:Option Nat) (hd : ∀ k,d=some k->k<N) {v:AV} {u:Value} (hm:BP B S w0 m') (he:DM B S m m') (hc:CV B S m' v u):FM B S w0 m0 N (J9 T d v) m' (a.put d u):=by
 refine ⟨hm,h.ext.trans he,λ i => ?_,?_,?_⟩
 ·cases d with
  | none=>simpa [J9,Act.put] using he.cv (h.tm i)
  | some k =>
   have hk:k<a.tmps.size:=by rw[h.size];exact hd k rfl
   by_cases pc:i=k
   ·subst pc
    simp only[J9,if_true,Act.put];simpa [Array.getD,hk] using hc
   ·have m9 : ¬ (some k=some i):=λ e=>pc (by simpa using e.symm)
    simp only[J9,if_neg m9,Act.put];have:(a.tmps.setIfInBounds k u).getD i undef=a.tmps.getD i undef:=by
     simp [Array.getElem?_setIfInBounds_ne (Ne.symm pc)]
    rw[this];exact he.cv (h.tm i)
 ·cases d<;>simp [Act.put,h.size]
 ·cases d<;>simpa [Act.put] using h.defers
theorem FM.says {T:Nat->AV} {m:M} {a:Act} (h:FM B S w0 m0 N T m a):CW B S m (EL T) a.eval:=AmV (λ_=>rfl) (λ_=>rfl) h.tm
theorem AnO {T:Nat->AV} {m:M} {a:Act} (h:FM B S w0 m0 N T m a) {ops:Array Oper} {o:Oper} {g':Option (Nat × Bool)} (hg:iE ops o.guard g'=true) {g:Bool} (ui:TD T g'=some g):Region.wanted o (yielded ops a.tmps)=g:=by
 unfold Region.wanted;cases Ns:o.guard with
 | none =>
  cases g' with
  | none=>simp [TD]at ui;simp [ui]
  | some _=>simp [iE,Ns]at hg
 | some jw =>
  obtain ⟨j,want⟩:=jw;cases g' with
  | none=>simp [iE,Ns]at hg
  | some tw =>
   obtain ⟨t,Apx⟩:=tw;simp only[iE,Ns,Bool.and_eq_true,beq_iff_eq]at hg;obtain ⟨rfl,hg⟩:=hg;split at hg
   ·rename_i oj Jv
    have Ml:oj.dst=some t:=by simpa using hg
    have af:=h.tm t;simp only[TD]at ui;unfold yielded;simp only[Jv,Option.bind_some,Ml];split at ui
    ·rename_i b hb
     rw[hb]at af;have hv:=aP af;have q6:a.tmps[t]? = some (.bool b):=by
      cases ht:a.tmps[t]? with
      | none=>simp [ht,undef]at hv
      | some x=>simp [ht]at hv;rw[hv]
     simp only[q6];simp at ui;rw[<-ui];cases b<;>cases want<;>rfl
    ·rename_i hb
     rw[hb]at af;obtain ⟨vs,hv,hl,_⟩:=pZ af;have:vs=[]:=List.eq_nil_of_length_eq_zero (by simpa using hl.symm)
     subst this;simp at ui;subst ui;cases ht:a.tmps[t]? with
     | none=>rfl
     | some x =>
      simp [ht]at hv;subst hv;rfl
    ·cases ui
   ·cases hg
theorem Zu (hC:G8 P num C) {ops:Array Oper} {i:Nat} {o:Oper} {ai:AI} (hi:ops[i]? = some o) (k8:mT P num N ops o ai=true) {T:Nat->AV} {m:M} {a:Act} (hf:FM B S w0 m0 N T m a) {g:Bool} (hg:TD T ai.guard=some g) {E:CG}
  (hE:g=true->j6 C ai.g7 (EL T) m.own ai.op=some E) {K:Act->World->Prop} (hK : ∀ m' a',m'.own=(if g then E.ax m.own else m.own)->FM B S w0 m0 N (J9 T ai.dst (if g then E.valOf m.own else .j9 [])) m' a'->K a' m'.w):wpOp P ops Q i K a m.w:=by
 simp only[mT,Bool.and_eq_true,beq_iff_eq]at k8;obtain ⟨⟨⟨h1,h2⟩,h3⟩,h4⟩:=k8;have hd : ∀ k,o.dst=some k->k<N:=λ k hk=>by
  rw[h1]at hk;rw[hk]at h2;simpa using h2
 unfold wpOp;simp only[hi,AnO hf h3 hg];cases g with
 | true =>
  simp only[if_true];refine .inl (Aiv hC hf.mem hf.says h4 (hE rfl) K Q λ u m' m4 oe ix af => ?_);refine hK m' _ (by simpa using m4) ?_;rw[<-h1];exact hf.put o.dst hd oe ix af
 | false =>
  simp only[Bool.false_eq_true,if_false];refine hK m _ (by simp) ?_;rw[<-h1];exact hf.put o.dst hd hf.mem (DM.refl m) Sw
theorem Zp {o:AI} {st l7:St} (h:C6 C o st=some l7) : ∃ g E,TD (j8 st.tm) o.guard=some g/\(g=true->j6 C o.g7 (EL (j8 st.tm)) st.own o.op=some E)/\j8 l7.tm=J9 (j8 st.tm) o.dst (if g then E.valOf st.own else .j9 [])/\l7.own=(if g then E.ax st.own else st.own):=by
 unfold C6 at h;rw[Akp]at h;cases hg:TD (j8 st.tm) o.guard with
 | none=>simp [hg]at h
 | some g =>
  cases g with
  | true =>
   simp only[hg,Option.map_eq_some_iff]at h;obtain ⟨E,hE,rfl⟩:=h;rw[Qx]at hE;exact ⟨true,E,rfl,λ_=>hE,Af5 st o.dst E,Af4 st o.dst E⟩
  | false =>
   simp only[hg,Option.some.injEq]at h;subst h;exact ⟨false,.val .any,rfl,λ h=>(by cases h),Sg st o.dst _,Sh st o.dst _⟩
theorem iF {ops:Array Oper} : ∀ {os:List Oper} {l:List AI},YV P num N ops os l=true->os.length=l.length /\ ∀ (i:Nat) (o:Oper) (x:AI),os[i]? = some o->l[i]? = some x->mT P num N ops o x=true
 | [],[],_=>⟨rfl,λ i o x h=>by simp at h⟩
 | o::r,x::l,h=>by
  simp only[YV,Bool.and_eq_true]at h;obtain ⟨h1,h2⟩:=iF h.2;refine ⟨by simp [h1],λ i o' x' ho hx => ?_⟩;cases i with
  | zero=>simp at ho hx;subst ho hx;exact h.1
  | succ i=>exact h2 i o' x' (by simpa using ho) (by simpa using hx)
 | [],_::_,h=>by simp [YV]at h
 | _::_,[],h=>by simp [YV]at h
theorem Zv (hC:G8 P num C) {ops:Array Oper} {l:List AI} (k8:YV P num N ops ops.toList l=true) : ∀ (n k:Nat) (st l7:St) (m:M) (a:Act),n+k=ops.size->DC C (l.drop k) st=some l7->m.own=st.own->FM B S w0 m0 N (j8 st.tm) m a ->
  (∀ m' a',m'.own=l7.own->FM B S w0 m0 N (j8 l7.tm) m' a'->Q .normal a' m'.w)->wpOps P ops Q (List.range' k n) a m.w
 | 0,k,st,l7,m,a,hk,hs,m4,hf,hQ=>by
  have hl:=(iF k8).1;simp at hl;rw[List.drop_eq_nil_of_le (by omega)]at hs;simp only[DC,Option.some.injEq]at hs;subst hs;simpa [wpOps] using hQ m a m4 hf
 | n+1,k,st,l7,m,a,hk,hs,m4,hf,hQ=>by
  obtain ⟨hl,hg⟩:=iF k8;simp at hl;have qi:k<l.length:=by omega
  have hko:k<ops.size:=by omega
  rw[List.drop_eq_getElem_cons qi]at hs;simp only[DC]at hs;cases l9:C6 C l[k] st with
  | none=>simp [l9]at hs
  | some A7 =>
   simp only[l9]at hs;obtain ⟨g,E,h1,h2,h3,h4⟩:=Zp l9;rw[List.range'_succ,wpOps_cons];have hoi:ops[k]? = some ops[k]:=Array.getElem?_eq_getElem hko;refine Zu hC hoi (hg k ops[k] l[k] (by simp [hko]) (zE qi)) hf h1 (λ ga=>by rw[m4];exact h2 ga) λ m' a' my oy => ?_
   refine Zv hC k8 n (k+1) A7 l7 m' a' (by omega) hs ?_ ?_ hQ
   ·rw[my,m4,h4]
   ·rw[m4]at oy
    rw[h3];exact oy
end
end Go.e8
