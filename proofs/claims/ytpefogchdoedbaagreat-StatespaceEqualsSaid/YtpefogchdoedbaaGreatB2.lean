/-
  Addresses, loads, stores, slices.
-/
import Derived.Test.YtpefogchdoedbaaGreatB1
import Derived.Laws.Slices
set_option linter.unusedSimpArgs false
set_option linter.unusedVariables false
set_option linter.unnecessarySimpa false
namespace Go.Eng
open Go.RowKit
section
variable {B:Nat} {S:Nat->Prop} {w0:World} {m:M}
variable {P:Program} {num:Nat->Nat} {o:Oper} {a:Act} {ρ:AQ->AV}
theorem WI {x:AV} {v:Value} (h:CV B S m x v) (h1:x ≠ .any) (h2 : ∀ cs,x ≠ .agg cs) (h3 : ∀ cs,x ≠ .tup cs) (h4 : ∀ p f g cs,x ≠ .fn p f g cs:=by intros;simp):CC B S m x v:=by
 cases h with
 | any=>exact absurd rfl h1
 | tup as=>exact absurd rfl (h3 as)
 | ca h=>cases h with
  | one h=>exact h
  | agg cs=>exact absurd rfl (h2 cs)
  | fn p f g cs=>exact absurd rfl (h4 p f g cs)
theorem RU {s t i j:Nat} {v:Value} (h:CV B S m (.ptr s t i j) v) : ∃ ad,v = .pointer (some ad)/\t<m.own.cnt s /\ ∀ b,m.own.get s t=some b -> ∃ g,m.ν s t=some g/\ad=⟨g,i*b.esz+j,none⟩:=by
 cases WI h (by simp) (by simp) (by simp) with
 | rd h=>cases h
 | ptr s t i j ad ht h'=>exact ⟨ad,rfl,ht,h'⟩
theorem Y9 {cs:List AV} {v:Value} (h:CV B S m (.dptr cs) v) : ∃ (b o:Nat) (u:Nat->Value) (l:Bool),v = .pointer (some ⟨b,o,none⟩)/\(cs≠[]->safe B S m l b)/\(∀ j c,cs[j]? = some c->m.w.cell? ⟨b,o+j,none⟩=some (u j))/\(∀ j c,cs[j]? = some c->Rd m.w (safe B S m) c (u j)):=by
 cases WI h (by simp) (by simp) (by simp) with
 | rd h=>cases h
 | dptr _ b o u l h1 h2 h3=>exact ⟨b,o,u,l,rfl,h1,h2,h3⟩
theorem QD {s t z off len:Nat} {v:Value} (h:CV B S m (.row s t z off len) v) : ∃ (ad:Option Addr) (cap:Nat),v = .slice ad len cap/\t<m.own.cnt s/\0<z/\len<=cap/\(0<len->ad.isSome=true) /\
  ∀ b,m.own.get s t=some b->b.esz=z/\((len=0/\cap=0) \/ ∃ g arr e,m.ν s t=some g/\ad=some ⟨g,off*z,none⟩/\m.w.heap[g]? = some (.cells arr e (0,0))/\(off+cap)*z<=arr.size):=by
 cases WI h (by simp) (by simp) (by simp) with
 | rd h=>cases h
 | row s t z off len ad cap ht hz0 hlc ha h'=>exact ⟨ad,cap,rfl,ht,hz0,hlc,ha,h'⟩
theorem WK {l:Bool} {es:List (List AV)} {v:Value} (h:CV B S m (.sl l es) v):Rd m.w (safe B S m) (.sl l es) v:=by
 cases WI h (by simp) (by simp) (by simp) with
 | rd h=>exact h
theorem Aan (hm:BR B S w0 m) (hs:CS B S m ρ a.eval) {x':AQ} (h:BA P num o.op (.nck x')=true) {s t i j:Nat} (hx:ρ x' = .ptr s t i j):CW B S w0 P o a m (.val (.ptr s t i j)):=by
 obtain ⟨x,hop,h1⟩:=AcS h
 have hc:=hx ▸ hs x x' h1
 obtain ⟨ad,hv,_,_⟩:=RU hc
 refine DY hm (u := .pointer (some ad)) ?_ (hv ▸ hc)
 simp [execOp,hop,hv]
theorem zY (hm:BR B S w0 m) (hs:CS B S m ρ a.eval) {x':AQ} {off:Nat} (h:BA P num o.op (.fadr x' off)=true) {s t i j:Nat} (hx:ρ x' = .ptr s t i j):CW B S w0 P o a m (.val (.ptr s t i (j+off))):=by
 obtain ⟨ty,x,f,fs,fd,inf,hop,h1,hu,hf,ho,hi,hsz⟩:=mT h
 obtain ⟨ad,hv,ht,hb⟩:=RU (hx ▸ hs x x' h1)
 refine DY hm (u := .pointer (some (ad.add off))) ?_ (.ca (.one (.ptr s t i (j+off) _ ht fun b hb' => ?_)))
 ·simp [execOp,hop,hv,Instr.fieldAt,run_underlying hu,hf,Instr.sureAddr,fieldPlace,sizeOf,typeInfo,hi,hsz,ho]
 ·obtain ⟨g,hg,rfl⟩:=hb b hb'
  exact ⟨g,hg,by rw[G4];simp;omega⟩
theorem zX (hm:BR B S w0 m) (hs:CS B S m ρ a.eval) {x':AQ} {off:Nat} (h:BA P num o.op (.fadr x' off)=true) {cs:List AV} (hx:ρ x' = .dptr cs):CW B S w0 P o a m (.val (.dptr (cs.drop off))):=by
 obtain ⟨ty,x,f,fs,fd,inf,hop,h1,hu,hf,ho,hi,hsz⟩:=mT h
 obtain ⟨b,ob,u,l,hv,hR,hc,hr⟩:=Y9 (hx ▸ hs x x' h1)
 refine DY hm (u := .pointer (some ⟨b,ob+off,none⟩)) ?_ (.ca (.one (.dptr _ b (ob+off) (fun j=>u (off+j)) l (fun hne=>hR (fun e=>hne (by simp [e]))) (fun j c hj => ?_) (fun j c hj => ?_))))
 ·simp [execOp,hop,hv,Instr.fieldAt,run_underlying hu,hf,Instr.sureAddr,fieldPlace,sizeOf,typeInfo,hi,hsz,ho,G4]
 ·rw[List.getElem?_drop]at hj
  rw[Nat.add_assoc]
  exact hc _ c hj
 ·rw[List.getElem?_drop]at hj
  exact hr _ c hj
theorem UO {agg:Bool} {cs:List AV} {v:AV} (h:IY agg cs=some v) {vs:List Value} (hc:CL B S m cs vs):CV B S m v (if agg then .agg vs.toArray else vs.getD 0 undef)/\(agg=false->vs.length=1):=by
 unfold IY at h
 cases agg with
 | true =>
  obtain rfl:AV.agg cs=v:=by simpa using h
  exact ⟨.ca (.agg cs vs hc),by simp⟩
 | false =>
  simp only[Bool.false_eq_true,if_false]at h
  split at h
  ·rename_i c
   obtain rfl:c=v:=by simpa using h
   obtain ⟨u,hu,hcc⟩:=RS hc (j:=0) (c:=c) rfl
   refine ⟨?_,fun _=>by rw[<-hc.1];rfl⟩
   simp only[Bool.false_eq_true,if_false,List.getD,hu,Option.getD_some]
   exact .ca (.one hcc)
  ·cases h
theorem qE (t:TypeId) (agg:Bool) (inf:TypeInfo) (hagg : ∀ w,(isAgg t).run P w = .ok agg w) (hi:P.info? t=some inf) (vs:List Value) (off n:Nat) (hn:inf.size=n) (hle:off+n<=vs.length) (h1:agg=false->n=1) (w:World) :
  (Go.part t vs.toArray off).run P w = .ok (if agg then .agg ((vs.drop off).take n).toArray else ((vs.drop off).take n).getD 0 undef) w:=by
 unfold Go.part
 rw[Sem.run_bind,hagg w]
 cases agg with
 | true=>simp [sizeOf,typeInfo,hi,hn,List.extract_eq_take_drop]
 | false =>
  have hlt:off<vs.length:=by have:=h1 rfl;omega
  simp [hlt,h1 rfl]
theorem zZ (hm:BR B S w0 m) (hs:CS B S m ρ a.eval) {x':AQ} {off n:Nat} {agg:Bool} (h:BA P num o.op (.fld x' off n agg)=true) {cs ds:List AV} {v:AV} (hx:ρ x' = .agg cs) (hp:part cs off n=some ds) (hv:IY agg ds=some v) :
  CW B S w0 P o a m (.val v):=by
 obtain ⟨ty,x,f,fs,fd,inf,hop,h1,hu,hf,ho,hi,hsz,hagg,h0⟩:=AcL h
 obtain ⟨vs,hev,hcl⟩:=WH (hx ▸ hs x x' h1)
 unfold Eng.part at hp
 split at hp
 ·rename_i hle
  obtain rfl:(cs.drop off).take n=ds:=by simpa using hp
  obtain ⟨hcv,hone⟩:=UO hv (gI hcl off n)
  have hl:=hcl.1
  have h1':agg=false->n=1:=fun e=>by have:=hone e;simp at this;omega
  refine DY hm ?_ hcv
  simp only[execOp,hop,Sem.run_bind,Instr.field,run_underlying hu,Result.andThen_ok,hf,hev,asAgg,Sem.run_pure,ho]
  rw[qE fd.type agg inf hagg hi vs off n hsz (by omega) h1']
  rfl
 ·cases hp
theorem Aae (hm:BR B S w0 m) (hs:CS B S m ρ a.eval) {len esz:Nat} {agg:Bool} {x' i':AQ} (h:BA P num o.op (.idx len esz agg x' i')=true) {k:IntKind} {n:Int} {cs ds:List AV} {v:AV} (hi':ρ i' = .int k n) (hx:ρ x' = .agg cs) (h0:0<=n) (hn:n<len)
  (hp:part cs (n.toNat*esz) esz=some ds) (hv:IY agg ds=some v):CW B S w0 P o a m (.val v):=by
 obtain ⟨ty,x,i,e,inf,hop,h1,h2,hu,hi,hsz,hagg⟩:=AcM h
 obtain ⟨vs,hev,hcl⟩:=WH (hx ▸ hs x x' h1)
 have hiv:=GR (hi' ▸ hs i i' h2)
 unfold Eng.part at hp
 split at hp
 ·rename_i hle
  obtain rfl:(cs.drop (n.toNat*esz)).take esz=ds:=by simpa using hp
  obtain ⟨hcv,hone⟩:=UO hv (gI hcl (n.toNat*esz) esz)
  have hl:=hcl.1
  have h1':agg=false->esz=1:=fun e=>by have:=hone e;simp at this;omega
  refine DY hm ?_ hcv
  simp only[execOp,hop,Sem.run_bind,Instr.index,hiv,asIntOf,Sem.run_pure,run_underlying hu,Result.andThen_ok,hev]
  rw[if_pos ⟨h0,hn⟩]
  simp only[Sem.run_bind,sizeOf,typeInfo,run_program,hi,Sem.run_pure,Result.andThen_ok,hsz]
  rw[qE e agg inf hagg hi vs (n.toNat*esz) esz hsz (by omega) h1']
  rfl
 ·cases hp
theorem Aaa (hm:BR B S w0 m) (hs:CS B S m ρ a.eval) {len esz:Nat} {x' i':AQ} (h:BA P num o.op (.iadr (some len) esz x' i')=true) {k:IntKind} {n:Int} {s t i0 j:Nat} (hi':ρ i' = .int k n) (hx:ρ x' = .ptr s t i0 j) (h0:0<=n) (hn:n<len) :
  CW B S w0 P o a m (.val (.ptr s t i0 (j+n.toNat*esz))):=by
 obtain ⟨ty,x,i,e,inf,hop,h1,h2,hi,hsz,hor⟩:=W0 h
 rcases hor with ⟨len',hl,hu,hlt⟩|⟨hl,_⟩
 ·obtain rfl:len=len':=by simpa using hl
  obtain ⟨ad,hv,ht,hb⟩:=RU (hx ▸ hs x x' h1)
  have hiv:=GR (hi' ▸ hs i i' h2)
  refine DY hm (u := .pointer (some (ad.add (n.toNat*esz)))) ?_ (.ca (.one (.ptr s t i0 (j+n.toNat*esz) _ ht fun b hb' => ?_)))
  ·simp [execOp,hop,hv,hiv,Instr.indexAt,asIntOf,run_underlying hu,Instr.sureAddr,sizeOf,typeInfo,hi,hsz,h0,hn]
  ·obtain ⟨g,hg,rfl⟩:=hb b hb'
   exact ⟨g,hg,by rw[G4];simp;omega⟩
 ·cases hl
theorem Aab (hm:BR B S w0 m) (hs:CS B S m ρ a.eval) {len esz:Nat} {x' i':AQ} (h:BA P num o.op (.iadr (some len) esz x' i')=true) {k:IntKind} {n:Int} {cs:List AV} (hi':ρ i' = .int k n) (hx:ρ x' = .dptr cs) (h0:0<=n) (hn:n<len) :
  CW B S w0 P o a m (.val (.dptr (cs.drop (n.toNat*esz)))):=by
 obtain ⟨ty,x,i,e,inf,hop,h1,h2,hi,hsz,hor⟩:=W0 h
 rcases hor with ⟨len',hl,hu,hlt⟩|⟨hl,_⟩
 ·obtain rfl:len=len':=by simpa using hl
  obtain ⟨b,ob,u,l,hv,hR,hc,hr⟩:=Y9 (hx ▸ hs x x' h1)
  have hiv:=GR (hi' ▸ hs i i' h2)
  refine DY hm (u := .pointer (some ⟨b,ob+n.toNat*esz,none⟩)) ?_ (.ca (.one (.dptr _ b (ob+n.toNat*esz) (fun j=>u (n.toNat*esz+j)) l (fun hne=>hR (fun e=>hne (by simp [e]))) (fun j c hj => ?_) (fun j c hj => ?_))))
  ·simp [execOp,hop,hv,hiv,Instr.indexAt,asIntOf,run_underlying hu,Instr.sureAddr,sizeOf,typeInfo,hi,hsz,h0,hn,G4]
  ·rw[List.getElem?_drop]at hj
   rw[Nat.add_assoc]
   exact hc _ c hj
  ·rw[List.getElem?_drop]at hj
   exact hr _ c hj
 ·cases hl
theorem qC (ty e:TypeId) (inf:TypeInfo) (hu:P.underlying ty=some (.slice e)) (hi:P.info? e=some inf) (ad:Addr) (len cap:Nat) (k:IntKind) (n:Int) (h0:0<=n) (hn:n<len) (w:World) :
  (Instr.indexAt ty (.slice (some ad) len cap) (.int k n)).run P w = .ok (.pointer (some (ad.add (n.toNat*inf.size)))) w:=by
 simp [Instr.indexAt,asIntOf,run_underlying hu,sizeOf,typeInfo,hi,h0,hn]
theorem Aac (hm:BR B S w0 m) (hs:CS B S m ρ a.eval) {esz:Nat} {x' i':AQ} (h:BA P num o.op (.iadr none esz x' i')=true) {k:IntKind} {n:Int} {s t z off len:Nat} (hi':ρ i' = .int k n) (hx:ρ x' = .row s t z off len) (h0:0<=n) (hn:n<len) (hz:z=esz) :
  CW B S w0 P o a m (.val (.ptr s t (off+n.toNat) 0)):=by
 obtain ⟨ty,x,i,e,inf,hop,h1,h2,hi,hsz,hor⟩:=W0 h
 rcases hor with ⟨_,hl,_⟩|⟨_,hu,_⟩
 ·cases hl
 ·obtain ⟨ad,cap,hv,ht,hz0,hlc,ha,hb⟩:=QD (hx ▸ hs x x' h1)
  have hiv:=GR (hi' ▸ hs i i' h2)
  obtain ⟨ad',rfl⟩:=Option.isSome_iff_exists.1 (ha (by omega))
  refine DY hm (u := .pointer (some (ad'.add (n.toNat*esz)))) ?_ (.ca (.one (.ptr s t (off+n.toNat) 0 _ ht fun b hb' => ?_)))
  ·simp only[execOp,hop,hv,hiv,Sem.run_bind]
   rw[qC ty e inf hu hi ad' len cap k n h0 hn,hsz]
   rfl
  ·obtain ⟨hbz,hor⟩:=hb b hb'
   rcases hor with ⟨hl0,_⟩|⟨g,arr,e',hg,hae,_,_⟩
   ·omega
   ·obtain rfl:ad'=⟨g,off*z,none⟩:=by simpa using hae
    exact ⟨g,hg,by rw[G4,hbz,<-hz,Nat.add_mul];rfl⟩
theorem Aad (hm:BR B S w0 m) (hs:CS B S m ρ a.eval) {esz:Nat} {x' i':AQ} (h:BA P num o.op (.iadr none esz x' i')=true) {k:IntKind} {n:Int} {l:Bool} {es:List (List AV)} {cs:List AV} (hi':ρ i' = .int k n) (hx:ρ x' = .sl l es) (h0:0<=n) (hn:es[n.toNat]? = some cs) (hz:cs.length=esz) :
  CW B S w0 P o a m (.val (.dptr cs)):=by
 obtain ⟨ty,x,i,e,inf,hop,h1,h2,hi,hsz,hor⟩:=W0 h
 rcases hor with ⟨_,hl,_⟩|⟨_,hu,_⟩
 ·cases hl
 ·have hrd:=WK (hx ▸ hs x x' h1)
  have hiv:=GR (hi' ▸ hs i i' h2)
  have hlt:n.toNat<es.length:=(zS hn).1
  generalize hev:a.eval x=v at hrd
  cases hrd with
  | sl0=>simp at hlt
  | sl _ _ b ob esz' cap u hne hp hR hcap hzz hc hr =>
   have hze:esz'=esz:=by
    rw[<-hz]
    exact (hzz cs (zM hn)).symm
   subst hze
   refine DY hm (u := .pointer (some ⟨b,ob+n.toNat*esz',none⟩)) ?_ (.ca (.one (.dptr _ b (ob+n.toNat*esz') (u n.toNat) l (fun _=>hR) (fun j c hj => ?_) (fun j c hj=>hr _ cs hn j c hj))))
   ·simp only[execOp,hop,hev,hiv,Sem.run_bind]
    rw[qC ty e inf hu hi ⟨b,ob,none⟩ es.length cap k n h0 (by omega),hsz,G4]
    rfl
   ·rw[Nat.add_assoc]
    exact hc _ cs hn j c hj
end
end Go.Eng
namespace Go.Eng
open Go.RowKit
section
variable {B:Nat} {S:Nat->Prop} {w0:World} {m:M}
variable {P:Program} {num:Nat->Nat} {o:Oper} {a:Act} {ρ:AQ->AV}
theorem cV (t:TypeId) (agg:Bool) (n:Nat) (hagg : ∀ w,(isAgg t).run P w = .ok agg w) (hn:if agg then ∃ i,P.info? t=some i/\i.size=n else n=1) (ad:Addr) (vs:List Value) (hl:vs.length=n) (w:World)
  (hc : ∀ q v,vs[q]? = some v->w.cell? (ad.add q)=some v):(Instr.loadAt t (.pointer (some ad))).run P w = .ok (if agg then .agg vs.toArray else vs.getD 0 undef) w:=by
 unfold Instr.loadAt loadVar
 simp only[Instr.sureAddr,Sem.run_bind,Sem.run_pure,Result.andThen_ok,hagg w]
 cases agg with
 | true =>
  simp only[if_true]at hn
  obtain ⟨i,hi,hs⟩:=hn
  have:=run_loadCells_list (P:=P) w ad vs hc
  simp [sizeOf,typeInfo,hi,hs,<-hl,this]
 | false =>
  simp only[Bool.false_eq_true,if_false]at hn ⊢
  have hlt:0<vs.length:=by omega
  have h0:=hc 0 vs[0] (zE hlt)
  have h0':w.cell? ad=some vs[0]:=by simpa [Addr.add] using h0
  simp [load,Sem.run,h0',hlt]
theorem pC (hm:BR B S w0 m) {s t i j n:Nat} {cs:List AV} (h:m.own.ldp s t i j n=some cs) : ∃ b g arr e,m.own.get s t=some b/\(0<n->m.ν s t=some g/\m.w.heap[g]? = some (.cells arr e (0,0))) /\
  ∃ vs:List Value,vs.length=n/\CL B S m cs vs /\ ∀ q v,vs[q]? = some v->arr[i*b.esz+j+q]? = some v:=by
 unfold AH.ldp at h
 cases hb:m.own.get s t with
 | none=>simp [hb]at h
 | some b =>
  simp only[hb]at h
  cases he:b.es[i]? with
  | none=>simp [he]at h
  | some ds =>
   simp only[he,part]at h
   split at h
   ·rename_i hle
    obtain rfl:(ds.drop j).take n=cs:=by simpa using h
    obtain ⟨hz,hmat⟩:=hm.blk s t b hb
    cases hν:m.ν s t with
    | none =>
     rw[hν]at hmat
     rw[hmat]at he
     simp at he
    | some g =>
     rw[hν]at hmat
     obtain ⟨hB,arr,e,hh,hcc⟩:=hmat
     have hsz : ∀ q,q<n -> ∃ u,arr[i*b.esz+j+q]? = some u:=fun q hq=>by
      have hlt:j+q<ds.length:=by omega
      obtain ⟨u,hu,_⟩:=hcc i ds he (j+q) ds[j+q] (zE hlt)
      exact ⟨u,by rw[<-hu];congr 1;omega⟩
     refine ⟨b,g,arr,e,rfl,fun _=>⟨rfl,hh⟩,(arr.toList.drop (i*b.esz+j)).take n,?_,⟨?_,?_⟩,?_⟩
     ·rw[List.length_take,List.length_drop]
      rcases Nat.eq_zero_or_pos n with h0|h0
      ·omega
      ·obtain ⟨u,hu⟩:=hsz (n-1) (by omega)
       have:=(Array.getElem?_eq_some_iff.1 hu).1
       simp;omega
     ·rw[List.length_take,List.length_take,List.length_drop,List.length_drop]
      rcases Nat.eq_zero_or_pos n with h0|h0
      ·omega
      ·obtain ⟨u,hu⟩:=hsz (n-1) (by omega)
       have:=(Array.getElem?_eq_some_iff.1 hu).1
       simp;omega
     ·intro q c v hq hv
      rw[List.getElem?_take]at hq hv
      split at hq
      ·rename_i hqn
       rw[if_pos hqn]at hv
       rw[List.getElem?_drop]at hq hv
       obtain ⟨u,hu,hc⟩:=hcc i ds he (j+q) c hq
       have:some u=some v:=by
        rw[<-hu,<-hv]
        simp only[Array.getElem?_toList]
        congr 1;omega
       obtain rfl:u=v:=by simpa using this
       exact hc
      ·cases hq
     ·intro q v hv
      rw[List.getElem?_take]at hv
      split at hv
      ·rw[List.getElem?_drop]at hv
       simpa using hv
      ·cases hv
   ·cases h
theorem V9 {w:World} {g p:Nat} {arr:Array Value} {e:TypeId} (h:w.heap[g]? = some (.cells arr e (0,0))):w.cell? ⟨g,p,none⟩=arr[p]? := by
 simp [World.cell?,h]
theorem Aag (hm:BR B S w0 m) (hs:CS B S m ρ a.eval) {agg:Bool} {n:Nat} {x':AQ} (h:BA P num o.op (.ld agg n x')=true) {s t i j:Nat} {cs:List AV} {v:AV} (hx:ρ x' = .ptr s t i j) (hl:m.own.ldp s t i j n=some cs) (hv:IY agg cs=some v) :
  CW B S w0 P o a m (.val v):=by
 obtain ⟨ty,x,hop,h1,hagg,hn⟩:=mU h
 obtain ⟨ad,hev,ht,hb⟩:=RU (hx ▸ hs x x' h1)
 obtain ⟨b,g,arr,e,hget,hg,vs,hvl,hcl,hvs⟩:=pC hm hl
 obtain ⟨hcv,_⟩:=UO hv hcl
 refine DY hm ?_ hcv
 simp only[execOp,hop,Sem.run_bind,hev]
 rw[cV ty agg n hagg hn ad vs hvl m.w (fun q u hq => ?_)]
 ·rfl
 ·have hlt:q<vs.length:=(zS hq).1
  obtain ⟨hg1,hg2⟩:=hg (by omega)
  obtain ⟨g',hg',rfl⟩:=hb b hget
  obtain rfl:g=g':=by rw[hg1]at hg';simpa using hg'
  rw[G4,V9 hg2]
  exact hvs q u hq
theorem Aaf (hm:BR B S w0 m) (hs:CS B S m ρ a.eval) {agg:Bool} {n:Nat} {x':AQ} (h:BA P num o.op (.ld agg n x')=true) {cs ds:List AV} {v:AV} (hx:ρ x' = .dptr cs) (hl:part cs 0 n=some ds) (hv:IY agg ds=some v) :
  CW B S w0 P o a m (.val v):=by
 obtain ⟨ty,x,hop,h1,hagg,hn⟩:=mU h
 obtain ⟨b,ob,u,l,hev,hR,hc,hr⟩:=Y9 (hx ▸ hs x x' h1)
 unfold Eng.part at hl
 split at hl
 ·rename_i hle
  obtain rfl:(cs.drop 0).take n=ds:=by simpa using hl
  have hcl:CL B S m ((cs.drop 0).take n) ((List.range n).map u):=by
   refine ⟨by simp;omega,fun q c v' hq hv' => ?_⟩
   simp only[List.drop_zero,List.getElem?_take]at hq
   split at hq
   ·rename_i hqn
    simp [hqn]at hv'
    subst hv'
    exact .rd (hr q c hq)
   ·cases hq
  obtain ⟨hcv,_⟩:=UO hv hcl
  refine DY hm ?_ hcv
  simp only[execOp,hop,Sem.run_bind,hev]
  rw[cV ty agg n hagg hn ⟨b,ob,none⟩ ((List.range n).map u) (by simp) m.w (fun q w' hq => ?_)]
  ·rfl
  ·have hqn:q<n:=by have:=(zS hq).1;simpa using this
   simp [hqn]at hq
   subst hq
   rw[G4]
   exact hc q cs[q] (zE (by omega))
 ·cases hl
theorem X0 {α:Type} (l:List α) (off:Nat) (vs:List α) (h:off+vs.length<=l.length) (q:Nat):(l.take off++vs++l.drop (off+vs.length))[q]? = if q<off then l[q]? else if q<off+vs.length then vs[q-off]? else l[q]? := by
 rw[List.append_assoc]
 by_cases h1:q<off
 ·rw[if_pos h1,List.getElem?_append_left (by simp;omega),List.getElem?_take,if_pos h1]
 ·rw[if_neg h1,List.getElem?_append_right (by simp;omega)]
  have e1:(l.take off).length=off:=by simp;omega
  rw[e1]
  by_cases h2:q<off+vs.length
  ·rw[if_pos h2,List.getElem?_append_left (by omega)]
  ·rw[if_neg h2,List.getElem?_append_right (by omega),List.getElem?_drop]
   congr 1;omega
theorem YV (hm:BR B S w0 m) {g:Nat} (hB:B<=g) (arr:Array Value):Below B w0 (m.w.setRow g arr) :=
 hm.below.trans ⟨rfl,rfl,rfl,by simp,fun k hk=>setRow_other _ _ _ _ (by omega)⟩
theorem jD (hm:BR B S w0 m) (hs:CS B S m ρ a.eval) {n:Nat} {x' v':AQ} (h:BA P num o.op (.st n x' v')=true) {s t i j:Nat} {vs:List AV} {own':AH} (hx:ρ x' = .ptr s t i j) (hv:cellsOf (ρ v')=some vs) (hn:vs.length=n) (hst:m.own.stp s t i j vs=some own') :
  CW B S w0 P o a m (.tur (.tup []) own'):=by
 obtain ⟨ty,x,v,inf,hop,h1,h2,hi,hsz⟩:=AcW h
 obtain ⟨ad,hev,ht,hb⟩:=RU (hx ▸ hs x x' h1)
 have hcl:=WJ (hs v v' h2) hv
 unfold AH.stp at hst
 cases hget:m.own.get s t with
 | none=>simp [hget]at hst
 | some b =>
  simp only[hget]at hst
  cases he:b.es[i]? with
  | none=>simp [he]at hst
  | some cs =>
   simp only[he]at hst
   split at hst
   ·rename_i hle
    obtain rfl:=Option.some.inj hst
    obtain ⟨hz,hmat⟩:=hm.blk s t b hget
    obtain ⟨g,hg,rfl⟩:=hb b hget
    rw[hg]at hmat
    obtain ⟨hB,arr,e,hh,hcc⟩:=hmat
    have hcsl:cs.length=b.esz:=hz cs (zM he)
    have hlen:(a.eval v).cells.toList.length=vs.length:=hcl.1.symm
    have hil:i<b.es.length:=(zS he).1
    have hoff:i*b.esz+j+vs.length<=arr.size:=by
     rcases Nat.eq_zero_or_pos vs.length with h0|h0
     ·rcases Nat.eq_zero_or_pos j with hj0|hj0
      ·rw[h0,hj0]
       rcases Nat.eq_zero_or_pos i with hi0|hi0
       ·rw[hi0];omega
       ·rcases Nat.eq_zero_or_pos b.esz with hz0|hz0
        ·rw[hz0];omega
        ·have hi1:i-1<b.es.length:=by omega
         have hl1:(b.es[i-1]).length=b.esz:=hz _ (List.getElem_mem hi1)
         obtain ⟨u,hu,_⟩:=hcc (i-1) _ (zE hi1) (b.esz-1) _ (zE (by omega))
         have:=(Array.getElem?_eq_some_iff.1 hu).1
         have e1:(i-1)*b.esz+b.esz=i*b.esz:=by
          rw[<-Nat.succ_mul];congr 1;omega
         omega
      ·obtain ⟨u,hu,_⟩:=hcc i cs he (j-1) cs[j-1] (zE (by omega))
       have:=(Array.getElem?_eq_some_iff.1 hu).1
       omega
     ·obtain ⟨u,hu,_⟩:=hcc i cs he (j+vs.length-1) cs[j+vs.length-1] (zE (by omega))
      have:=(Array.getElem?_eq_some_iff.1 hu).1
      omega
    have hone:=xQ hcl
    have hstore:=run_storeCells_at (P:=P) g (i*b.esz+j) e (a.eval v).cells.toList 0 arr m.w hh (by rw[hlen];omega) hone
    generalize harr':(arr.toList.take (i*b.esz+j+0)++(a.eval v).cells.toList++arr.toList.drop (i*b.esz+j+0+(a.eval v).cells.toList.length)).toArray=arr' at hstore
    have harrg : ∀ p,arr'[p]? = if p<i*b.esz+j then arr[p]? else if p<i*b.esz+j+vs.length then (a.eval v).cells.toList[p-(i*b.esz+j)]? else arr[p]? := fun p=>by
     rw[<-harr']
     simp only[Nat.add_zero,List.getElem?_toArray]
     rw[X0 _ _ _ (by rw[hlen];simpa using hoff),hlen]
     simp only[Array.getElem?_toList]
    have hsize':arr'.size=arr.size:=by
     rw[<-harr']
     simp [hlen]
     have:=hlen
     simp at this
     omega
    obtain ⟨k1,k2⟩:=sC hm s t b ⟨b.esz,b.es.set i (splice cs j vs)⟩ hget g hg arr arr' e hh rfl (fun y hy=>by
      rcases List.mem_or_eq_of_mem_set hy with hy|hy
      ·exact hz y hy
      ·rw[hy,<-hcsl];simp [splice];omega) hsize'
     (fun i' cs' hi' q c hq=>by
      show ∃ u,arr'[i'*b.esz+q]? = some u/\_
      change (b.es.set i (splice cs j vs))[i']? = some cs' at hi'
      by_cases hii:i'=i
      ·subst hii
       rw[List.getElem?_set_self hil]at hi'
       obtain rfl:splice cs j vs=cs':=by simpa using hi'
       unfold splice at hq
       rw[X0 _ _ _ hle]at hq
       rw[harrg]
       by_cases hq1:q<j
       ·rw[if_pos hq1]at hq
        rw[if_pos (by omega)]
        exact hcc i' cs he q c hq
       ·rw[if_neg hq1]at hq
        rw[if_neg (by omega)]
        by_cases hq2:q<j+vs.length
        ·rw[if_pos hq2]at hq
         rw[if_pos (by omega)]
         obtain ⟨u,hu,hcu⟩:=RS hcl hq
         exact ⟨u,by rw[<-hu];congr 1;omega,hcu⟩
        ·rw[if_neg hq2]at hq
         rw[if_neg (by omega)]
         exact hcc i' cs he q c hq
      ·rw[List.getElem?_set_ne (by omega)]at hi'
       have hql:q<b.esz:=by
        rw[<-hz cs' (zM hi')]
        exact (zS hq).1
       obtain ⟨u,hu,hcu⟩:=hcc i' cs' hi' q c hq
       refine ⟨u,?_,hcu⟩
       rw[harrg,<-hu]
       rcases Nat.lt_or_gt_of_ne hii with hlt|hgt
       ·have:(i'+1)*b.esz<=i*b.esz:=Nat.mul_le_mul_right _ hlt
        rw[Nat.succ_mul]at this
        rw[if_pos (by omega)]
       ·have:(i+1)*b.esz<=i'*b.esz:=Nat.mul_le_mul_right _ hgt
        rw[Nat.succ_mul]at this
        rw[if_neg (by omega),if_neg (by omega)])
     (m.w.setRow g arr') (YV hm hB arr') (by simp) (fun k hk=>setRow_other _ _ _ _ hk) (setRow_heap _ _ _ _ _ _ hh)
    intro K Q hK
    refine Ag8 (w':=m.w.setRow g arr') ?_ (hK undef ⟨m.ν,_,m.w.setRow g arr'⟩ rfl k1 k2 nQ)
    have hsz':(a.eval v).cells.size=inf.size:=by rw[hsz,<-hn,<-hlen];simp
    simp only[execOp,hop,hev,Instr.storeAt,storeVar,Instr.sureAddr,Sem.run_bind,Sem.run_pure,Result.andThen_ok,sizeOf,typeInfo,run_program,hi]
    rw[if_neg (by simpa using hsz')]
    simp only[Sem.run_bind,Sem.run_pure,Result.andThen_ok,hstore]
   ·cases hst
theorem Aai (hm:BR B S w0 m) (hs:CS B S m ρ a.eval) {s esz bytes:Nat} {zero:List AV} {l' c':AQ} (h:BA P num o.op (.mk s esz bytes zero l' c')=true) {kl kc:IntKind} {l c:Int} (hl:ρ l' = .int kl l) (hc:ρ c' = .int kc c) (h0:0<=l) (hlc:l<=c) (hb:c*bytes<=EJ) (h63:c<=9223372036854775807) (hz:zero.length=esz) :
  CW B S w0 P o a m (.new s ⟨esz,List.replicate l.toNat zero⟩ (fun t => .row s t esz 0 l.toNat)):=by
 obtain ⟨ty,lx,cx,e,inf,z,hop,h1,h2,hu,hi,hsz,hby,hz0,hzz,hne⟩:=AcP h
 have el:=GR (hl ▸ hs lx l' h1)
 have ec:=GR (hc ▸ hs cx c' h2)
 have hcl:CL B S m zero z.cells.toList:=RY hzz
 have hzs:z.cells.size=esz:=by rw[<-hz,hcl.1];simp
 refine jC hm s esz l.toNat c.toNat _ (madeCells z.cells (c.toNat*inf.size)) e (Nat.pos_of_ne_zero hne) (by omega) (by rw[size_madeCells,hsz];exact Nat.le_refl _) (fun x hx=>by rw[(List.mem_replicate.1 hx).2,hz]) (fun i cs hi' j c1 hj => ?_) ?_
 ·rw[List.getElem?_replicate]at hi'
  split at hi'
  ·rename_i hil
   obtain rfl:zero=cs:=by simpa using hi'
   obtain ⟨u,hu',hcu⟩:=RS hcl hj
   refine ⟨u,?_,hcu⟩
   have hjl:j<esz:=by rw[<-hz];exact (zS hj).1
   have hlt:i*esz+j<c.toNat*inf.size:=by
    rw[hsz]
    have h3:(i+1)*esz<=c.toNat*esz:=Nat.mul_le_mul_right _ (by omega)
    rw[Nat.succ_mul]at h3
    omega
   have hmod:(i*esz+j)%z.cells.size=j:=by rw[hzs,Nat.add_comm,Nat.add_mul_mod_self_right,Nat.mod_eq_of_lt hjl]
   have hu2:z.cells[j]? = some u:=by simpa using hu'
   have hjs:j<z.cells.size:=(Array.getElem?_eq_some_iff.1 hu2).1
   have hul:z.cells[j]=u:=(Array.getElem?_eq_some_iff.1 hu2).2
   simp [madeCells,hlt,hmod,hjs,hul]
  ·cases hi'
 ·have:=run_make (P:=P) m.w ty e inf z hu hi hz0 kl kc l c h0 hlc (by rw[hby,Int.mul_comm];simp only[EJ]at hb;omega) h63
  simp only[execOp,hop,el,ec,Sem.run_bind,this,Result.andThen_ok,Sem.run_pure]
theorem zW (hm:BR B S w0 m) (hs:CS B S m ρ a.eval) {x':AQ} {i:Nat} (h:BA P num o.op (.ext x' i)=true) {vs:List AV} {v:AV} (hx:ρ x' = .tup vs) (hv:vs[i]? = some v):CW B S w0 P o a m (.val v):=by
 obtain ⟨x,hop,h1⟩:=AcK h
 obtain ⟨us,hev,hl,hc⟩:=ZA (hx ▸ hs x x' h1)
 have hlt:i<us.length:=by rw[<-hl];exact (zS hv).1
 refine DY hm (u:=us[i]) ?_ (.ca (hc i v us[i] hv (zE hlt)))
 simp [execOp,hop,hev,Instr.extract,hlt]
theorem Aah (hm:BR B S w0 m) (hs:CS B S m ρ a.eval) {x':AQ} (h:BA P num o.op (.len x')=true) {n:Nat} (hx:lenOf (ρ x')=some n):CW B S w0 P o a m (.val (.int .i64 n)):=by
 obtain ⟨x,t,e,hop,h1,hu⟩:=AcO h
 have hcv:=hs x x' h1
 obtain ⟨ad,cap,hev⟩ : ∃ ad cap,a.eval x = .slice ad n cap:=by
  generalize ρ x'=av at *
  cases av with
  | sl l es =>
   have hr:=WK hcv
   simp only[lenOf,Option.some.injEq]at hx
   subst hx
   generalize a.eval x=v at *
   cases hr with
   | sl0=>exact ⟨_,_,rfl⟩
   | sl=>exact ⟨_,_,rfl⟩
  | row s t z off len =>
   obtain ⟨ad,cap,hv,_⟩:=QD hcv
   simp only[lenOf,Option.some.injEq]at hx
   subst hx
   exact ⟨ad,cap,hv⟩
  | nil =>
   simp only[lenOf,Option.some.injEq]at hx
   subst hx
   exact ⟨_,_,OH hcv⟩
  | _=>simp [lenOf]at hx
 refine DY hm (u := .int .i64 n) ?_ (M8 _ _)
 simp [execOp,hop,resolve,invoke,builtin,hev,Builtin.len_,run_underlying hu,goInt]
theorem zT (hm:BR B S w0 m) (hs:CS B S m ρ a.eval) {x':AQ} (h:BA P num o.op (.capn x')=true) (hx:ρ x' = .nil):CW B S w0 P o a m (.val (.int .i64 0)):=by
 obtain ⟨x,t,e,hop,h1,hu⟩:=AcH h
 have hev:=OH (hx ▸ hs x x' h1)
 refine DY hm (u := .int .i64 0) ?_ (M8 _ _)
 simp [execOp,hop,resolve,invoke,builtin,hev,Builtin.cap_,run_underlying hu,goInt]
theorem RW (hs:CS B S m ρ a.eval) : ∀ {xs:List Operand} {ys:List AQ},D5 xs ys=true->xs.length=ys.length /\ ∀ (j:Nat) (x:Operand) (y:AQ),xs[j]? = some x->ys[j]? = some y->CV B S m (ρ y) (a.eval x)
 | [],[],_=>⟨rfl,fun j x y h=>by simp at h⟩
 | x::r,y::l,h=>by
  simp only[D5,Bool.and_eq_true]at h
  obtain ⟨ih1,ih2⟩:=RW hs h.2
  refine ⟨by simp [ih1],fun j x' y' hx hy => ?_⟩
  cases j with
  | zero=>simp at hx hy;subst hx hy;exact hs _ _ h.1
  | succ j=>exact ih2 j x' y' (by simpa using hx) (by simpa using hy)
 | [],_::_,h=>by simp [D5]at h
 | _::_,[],h=>by simp [D5]at h
theorem qD (mx:Bool) (hs:CS B S m ρ a.eval) (w:World) : ∀ (xs:List Operand) (ys:List AQ) (v:AV) (u:Value) (r:AV),D5 xs ys=true->CV B S m v u->MR mx v (ys.map ρ)=some r->(∃ k n,v = .int k n) -> ∃ k n,r = .int k n /\
  ((xs.map a.eval).foldlM (if mx then Builtin.max2 else Builtin.min2) u).run P w = .ok (.int k n) w
 | [],[],v,u,r,_,hc,hm,⟨k,n,hv⟩=>by
  simp only[List.map_nil,MR,Option.some.injEq]at hm
  subst hm hv
  obtain rfl:=GR hc
  exact ⟨k,n,rfl,by simp⟩
 | x::xr,y::yr,v,u,r,he,hc,hm,⟨k,n,hv⟩=>by
  simp only[D5,Bool.and_eq_true]at he
  simp only[List.map_cons,MR]at hm
  have hx:=hs x y he.1
  subst hv
  obtain rfl:=GR hc
  cases hy:ρ y with
  | int k' n' =>
   rw[hy]at hx hm
   have hxe:=GR hx
   simp only[OP]at hm
   obtain ⟨k2,n2,rfl,h2⟩:=qD mx hs w xr yr _ (.int k (if mx then (if n'>n then n' else n) else (if n'<n then n' else n))) r he.2 (M8 _ _) hm ⟨_,_,rfl⟩
   refine ⟨k2,n2,rfl,?_⟩
   simp only[List.map_cons,List.foldlM_cons,Sem.run_bind,hxe]
   cases mx
   ·simpa [Builtin.min2] using h2
   ·simpa [Builtin.max2] using h2
  | _=>rw[hy]at hm;simp [OP]at hm
 | [],_::_,_,_,_,he,_,_,_=>by simp [D5]at he
 | _::_,[],_,_,_,he,_,_,_=>by simp [D5]at he
theorem Aak (hm:BR B S w0 m) (hs:CS B S m ρ a.eval) {mx:Bool} {xs':List AQ} (h:BA P num o.op (.mm mx xs')=true) {v r:AV} {l:List AV} (hx:xs'.map ρ=v::l) (hv:MR mx v l=some r) (hi : ∃ k n,v = .int k n):CW B S w0 P o a m (.val r):=by
 obtain ⟨xs,ts,hop,he⟩:=mV h
 cases xs' with
 | nil=>simp at hx
 | cons y yr =>
  simp only[List.map_cons,List.cons.injEq]at hx
  obtain ⟨rfl,rfl⟩:=hx
  obtain ⟨xl⟩:=xs
  cases xl with
  | nil=>simp [D5]at he
  | cons x xr =>
   simp only[D5,Bool.and_eq_true]at he
   obtain ⟨k,n,rfl,hrun⟩:=qD (P:=P) mx hs m.w xr yr (ρ y) (a.eval x) r he.2 (hs x y he.1) hv hi
   refine DY hm (u := .int k n) ?_ (M8 _ _)
   cases mx
   ·simp only[execOp,hop,resolve,invoke,builtin,Builtin.min_,Sem.run_bind,Sem.run_pure,Result.andThen_ok]at hrun ⊢
    simp at hrun ⊢
    rw[hrun]
    rfl
   ·simp only[execOp,hop,resolve,invoke,builtin,Builtin.max_,Sem.run_bind,Sem.run_pure,Result.andThen_ok]at hrun ⊢
    simp at hrun ⊢
    rw[hrun]
    rfl
end
end Go.Eng

namespace Go.Eng
open Go.RowKit
section
variable {B:Nat} {S:Nat->Prop} {w0:World} {m:M}
variable {P:Program} {num:Nat->Nat} {o:Oper} {a:Act} {ρ:AQ->AV}
def G5 (ρ:AQ->AV) (d:Nat):Option AQ->Option Int
 | none=>some d
 | some y=>match ρ y with | .int _ n=>some n|_=>none
theorem XV (ty e:TypeId) (inf:TypeInfo) (hu:P.underlying ty=some (.slice e)) (hi:P.info? e=some inf) (hs:CS B S m ρ a.eval) {lo hi':Option Operand} {lo' hi'':Option AQ} (hlo:N0 lo lo'=true) (hhi:N0 hi' hi''=true)
  (ad:Option Addr) (len cap:Nat) (l h:Int) (hl:G5 ρ 0 lo'=some l) (hh:G5 ρ len hi''=some h) (h0:0<=l) (hlh:l<=h) (hhl:h<=len) (hlc:len<=cap) (w:World) :
  (Instr.sliceAt ty (.slice ad len cap) (lo.map a.eval) (hi'.map a.eval) none).run P w = .ok (.slice (if cap=l.toNat then ad else ad.map (·.add (l.toNat*inf.size))) (h.toNat-l.toNat) (cap-l.toNat)) w:=by
 have hiv : ∀ {x:Option Operand} {y:Option AQ} {d:Nat} {n:Int},N0 x y=true->G5 ρ d y=some n->(x=none/\y=none/\n=d) \/ ∃ x' k,x=some x'/\a.eval x' = .int k n:=by
  intro x y d n hxy hb
  cases x with
  | none=>cases y with
   | none=>simp [G5]at hb;exact .inl ⟨rfl,rfl,hb.symm⟩
   | some y=>simp [N0]at hxy
  | some x=>cases y with
   | none=>simp [N0]at hxy
   | some y =>
    simp only[N0]at hxy
    simp only[G5]at hb
    cases hy:ρ y with
    | int k q =>
     rw[hy]at hb
     simp only[Option.some.injEq]at hb
     subst hb
     exact .inr ⟨x,k,rfl,GR (hy ▸ hs x y hxy)⟩
    | _=>rw[hy]at hb;cases hb
 have hcapb:h<=(cap:Int):=by omega
 unfold Instr.sliceAt Instr.slice Instr.sliceBounds
 rcases hiv hlo hl with ⟨rfl,_,rfl⟩|⟨x1,k1,rfl,e1⟩<;>rcases hiv hhi hh with ⟨rfl,_,rfl⟩|⟨x2,k2,rfl,e2⟩
 ·simp [run_underlying hu,sizeOf,typeInfo,hi]
 ·have hb1:=run_sliceBound (P:=P) w k2 h cap .sliceAcap (by omega) hcapb
  simp [run_underlying hu,sizeOf,typeInfo,hi,e2,hb1]
 ·have hb2:=run_sliceBound (P:=P) w k1 l len .sliceB h0 (by omega)
  simp [run_underlying hu,sizeOf,typeInfo,hi,e1,hb2]
 ·have hb1:=run_sliceBound (P:=P) w k2 h cap .sliceAcap (by omega) hcapb
  have hb2:=run_sliceBound (P:=P) w k1 l h.toNat .sliceB h0 (by omega)
  simp [run_underlying hu,sizeOf,typeInfo,hi,e1,e2,hb1,hb2]
theorem Aap (hm:BR B S w0 m) (hs:CS B S m ρ a.eval) {esz:Nat} {x':AQ} {lo' hi':Option AQ} (h:BA P num o.op (.slc esz x' lo' hi')=true) (hx:ρ x' = .nil) (hl:G5 ρ 0 lo'=some 0) (hh:G5 ρ 0 hi'=some 0):CW B S w0 P o a m (.val .nil):=by
 obtain ⟨ty,x,lo,hi2,e,inf,hop,h1,h2,h3,hu,hi,hsz,hne⟩:=aZ h
 have hev:=OH (hx ▸ hs x x' h1)
 have hrun:=XV ty e inf hu hi hs h2 h3 none 0 0 0 0 hl hh (by omega) (by omega) (by omega) (by omega) m.w
 refine DY hm (u := .slice none 0 0) ?_ (.ca (.one .nil))
 simp only[execOp,hop,hev,Sem.run_bind,Option.map_none,hrun]
 rfl
theorem Aaq (hm:BR B S w0 m) (hs:CS B S m ρ a.eval) {esz:Nat} {x':AQ} {lo' hi':Option AQ} (h:BA P num o.op (.slc esz x' lo' hi')=true) {s t z off len:Nat} {l u:Int} (hx:ρ x' = .row s t z off len) (hl:G5 ρ 0 lo'=some l) (hh:G5 ρ len hi'=some u) (h0:0<=l) (hlu:l<=u) (hul:u<=len) (hz:z=esz) :
  CW B S w0 P o a m (.val (.row s t z (off+l.toNat) (u.toNat-l.toNat))):=by
 obtain ⟨ty,x,lo,hi2,e,inf,hop,h1,h2,h3,hu,hi,hsz,hne⟩:=aZ h
 obtain ⟨ad,cap,hev,ht,hz0,hlc,ha,hb⟩:=QD (hx ▸ hs x x' h1)
 have hrun:=XV ty e inf hu hi hs h2 h3 ad len cap l u hl hh h0 hlu hul hlc m.w
 refine DY hm ?_ (.ca (.one (.row s t z (off+l.toNat) (u.toNat-l.toNat) (if cap=l.toNat then ad else ad.map (·.add (l.toNat*inf.size))) (cap-l.toNat) ht hz0 (by omega) (fun hp => ?_) fun b hb' => ?_)))
 ·simp only[execOp,hop,hev,Sem.run_bind,Option.map_none,hrun]
  rfl
 ·rw[if_neg (by omega)]
  obtain ⟨ad',rfl⟩:=Option.isSome_iff_exists.1 (ha (by omega))
  rfl
 ·obtain ⟨hbz,hor⟩:=hb b hb'
  refine ⟨hbz,?_⟩
  rcases hor with ⟨hl0,hc0⟩|⟨g,arr,e',hg,hae,hh',hle⟩
  ·exact .inl ⟨by omega,by omega⟩
  ·by_cases hc:cap=l.toNat
   ·exact .inl ⟨by omega,by omega⟩
   ·refine .inr ⟨g,arr,e',hg,?_,hh',?_⟩
    ·rw[if_neg hc,hae,hsz,hz]
     simp only[Option.map_some,G4,Nat.add_mul]
    ·rw[show off+l.toNat+(cap-l.toNat)=off+cap by omega]
     exact hle
theorem Aar (hm:BR B S w0 m) (hs:CS B S m ρ a.eval) {esz:Nat} {x':AQ} {lo' hi':Option AQ} (h:BA P num o.op (.slc esz x' lo' hi')=true) {lt:Bool} {es:List (List AV)} {l u:Int} (hx:ρ x' = .sl lt es) (hl:G5 ρ 0 lo'=some l) (hh:G5 ρ es.length hi'=some u) (h0:0<=l) (hlu:l<=u) (hul:u<=es.length) (hz : ∀ e∈es,e.length=esz) :
  CW B S w0 P o a m (.val (.sl lt ((es.take u.toNat).drop l.toNat))):=by
 obtain ⟨ty,x,lo,hi2,e,inf,hop,h1,h2,h3,hu,hi,hsz,hne⟩:=aZ h
 have hrd:=WK (hx ▸ hs x x' h1)
 generalize hev:a.eval x=v at hrd
 cases hrd with
 | sl0 _ ad cap =>
  have hrun:=XV ty e inf hu hi hs h2 h3 ad 0 cap l u hl hh h0 hlu (by simpa using hul) (by omega) m.w
  simp only[List.length_nil]at hul
  rw[show (([]:List (List AV)).take u.toNat).drop l.toNat=[] by simp]
  refine DY hm (u := .slice (if cap=l.toNat then ad else ad.map (·.add (l.toNat*inf.size))) 0 (cap-l.toNat)) ?_ (.ca (.one (.rd (.sl0 lt _ _))))
  simp only[execOp,hop,hev,Sem.run_bind,Option.map_none,hrun]
  rw[show u.toNat-l.toNat=0 by omega]
  rfl
 | sl _ _ b ob esz' cap uu hne' hp hR hcap hzz hc hr =>
  have hrun:=XV ty e inf hu hi hs h2 h3 (some ⟨b,ob,none⟩) es.length cap l u hl hh h0 hlu hul hcap m.w
  have hze:esz'=esz:=by
   cases es with
   | nil=>exact absurd rfl hne'
   | cons q r=>rw[<-hzz q (by simp),hz q (by simp)]
  subst hze
  by_cases hz0:u.toNat-l.toNat=0
  ·have:(es.take u.toNat).drop l.toNat=[]:=by
    apply List.eq_nil_of_length_eq_zero
    simp;omega
   rw[this]
   refine DY hm (u := .slice (if cap=l.toNat then some ⟨b,ob,none⟩ else (some (⟨b,ob,none⟩:Addr)).map (·.add (l.toNat*inf.size))) 0 (cap-l.toNat)) ?_ (.ca (.one (.rd (Rd.sl0 lt _ _))))
   simp only[execOp,hop,hev,Sem.run_bind,Option.map_none,hrun]
   rw[hz0]
   rfl
  ·have hlen:((es.take u.toNat).drop l.toNat).length=u.toNat-l.toNat:=by simp;omega
   have hget : ∀ i,i<u.toNat-l.toNat->((es.take u.toNat).drop l.toNat)[i]? = es[l.toNat+i]? := fun i hi'=>by
    rw[List.getElem?_drop,List.getElem?_take,if_pos (by omega)]
   refine DY hm (u := .slice (some ⟨b,ob+l.toNat*esz',none⟩) ((es.take u.toNat).drop l.toNat).length (cap-l.toNat)) ?_ (.ca (.one (.rd (.sl lt _ b (ob+l.toNat*esz') esz' (cap-l.toNat) (fun i j=>uu (l.toNat+i) j) (fun e=>hz0 (by rw[<-hlen,e];rfl)) hp hR (by rw[hlen];omega) (fun q hq=>hzz q (List.mem_of_mem_take (List.mem_of_mem_drop hq))) (fun i q hi' j c hj => ?_) (fun i q hi' j c hj => ?_)))))
   ·simp only[execOp,hop,hev,Sem.run_bind,Option.map_none,hrun]
    rw[if_neg (by omega),hlen,hsz]
    simp only[Option.map_some,G4]
    rfl
   ·have hil:i<u.toNat-l.toNat:=by rw[<-hlen];exact (zS hi').1
    rw[hget i hil]at hi'
    rw[show ob+l.toNat*esz'+(i*esz'+j)=ob+((l.toNat+i)*esz'+j) by rw[Nat.add_mul];omega]
    exact hc _ q hi' j c hj
   ·have hil:i<u.toNat-l.toNat:=by rw[<-hlen];exact (zS hi').1
    rw[hget i hil]at hi'
    exact hr _ q hi' j c hj
structure S3 (B:Nat) (S:Nat->Prop) (m:M) (esz:Nat) (ys:List (List AV)) (ad:Option Addr) (news:List Value):Prop where
 len:news.length=ys.length*esz
 cells : ∀ b,ad=some b -> ∀ j v,news[j]? = some v->m.w.cell? (b.add j)=some v
 some_:ys≠[]->ad.isSome=true
 rel : ∀ i cs,ys[i]? = some cs -> ∀ j c,cs[j]? = some c -> ∃ u,news[i*esz+j]? = some u/\CC B S m c u
theorem yW (esz i j:Nat) (h:j<esz):(i*esz+j)/esz=i/\(i*esz+j)%esz=j:=by
 constructor
 ·rw[Nat.add_comm,Nat.add_mul_div_right _ _ (by omega),Nat.div_eq_of_lt h,Nat.zero_add]
 ·rw[Nat.add_comm,Nat.add_mul_mod_self_right,Nat.mod_eq_of_lt h]
theorem TU (hm:BR B S w0 m) {av:AV} {v:Value} (hc:CV B S m av v) {ys:List (List AV)} (he:D9 m.own av=some ys) {esz:Nat} (hz : ∀ e∈ys,e.length=esz) (h0:0<esz) :
  ∃ ad cap news,v = .slice ad ys.length cap/\S3 B S m esz ys ad news:=by
 cases av with
 | sl l es =>
  simp only[D9,Option.some.injEq]at he
  subst he
  cases WK hc with
  | sl0 _ ad cap=>exact ⟨ad,cap,[],rfl,by simp,fun b _ j v hv=>by simp at hv,fun h=>absurd rfl h,fun i cs hi=>by simp at hi⟩
  | sl _ _ b ob esz' cap uu hne' hp hR hcap hzz hcl hr =>
   have hze:esz'=esz:=by
    cases es with
    | nil=>exact absurd rfl hne'
    | cons q r=>rw[<-hzz q (by simp),hz q (by simp)]
   subst hze
   refine ⟨some ⟨b,ob,none⟩,cap,(List.range (es.length*esz')).map (fun k=>uu (k/esz') (k%esz')),rfl,by simp,fun b' hb' j v hv => ?_,fun _=>rfl,fun i cs hi j c hj => ?_⟩
   ·obtain rfl:(⟨b,ob,none⟩:Addr)=b':=by simpa using hb'
    rw[List.getElem?_map]at hv
    have hjl:j<es.length*esz':=by
     rcases Nat.lt_or_ge j (es.length*esz') with h|h
     ·exact h
     ·rw[List.getElem?_eq_none (by simpa using h)]at hv;cases hv
    rw[List.getElem?_range hjl]at hv
    simp only[Option.map_some,Option.some.injEq]at hv
    subst hv
    have hd:j/esz'<es.length:=Nat.div_lt_of_lt_mul (by rw[Nat.mul_comm];exact hjl)
    have hmo:j%esz'<esz':=Nat.mod_lt _ h0
    have hel:(es[j/esz']).length=esz':=hzz _ (List.getElem_mem hd)
    have:=hcl (j/esz') _ (zE hd) (j%esz') _ (zE (by rw[hel];exact hmo))
    rw[G4,<-this]
    congr 2
    have:=Nat.div_add_mod j esz'
    rw[Nat.mul_comm]at this
    omega
   ·have hjl:j<esz':=by rw[<-hzz cs (zM hi)];exact (zS hj).1
    have hil:i<es.length:=(zS hi).1
    have hlt:i*esz'+j<es.length*esz':=by
     have:(i+1)*esz'<=es.length*esz':=Nat.mul_le_mul_right _ hil
     rw[Nat.succ_mul]at this
     omega
    obtain ⟨e1,e2⟩:=yW esz' i j hjl
    refine ⟨uu i j,?_,.rd (hr i cs hi j c hj)⟩
    rw[List.getElem?_map,List.getElem?_range hlt]
    simp [e1,e2]
 | nil =>
  simp only[D9,Option.some.injEq]at he
  subst he
  exact ⟨none,0,[],OH hc,by simp,fun b hb=>(by cases hb),fun h=>absurd rfl h,fun i cs hi=>by simp at hi⟩
 | row s t z off len =>
  obtain ⟨ad,cap,hv,ht,hz0,hlc,ha,hb⟩:=QD hc
  simp only[D9]at he
  cases hget:m.own.get s t with
  | none=>simp [hget]at he
  | some b =>
   simp only[hget]at he
   split at he
   ·rename_i hle
    obtain ⟨hle,hbz⟩:=hle
    obtain rfl:=Option.some.inj he
    have hyl:((b.es.drop off).take len).length=len:=by simp;omega
    obtain ⟨_,hor⟩:=hb b hget
    by_cases hl0:len=0
    ·subst hl0
     refine ⟨ad,cap,[],by simpa using hv,by simp,fun b _ j v hv=>by simp at hv,fun h=>absurd (by simp) h,fun i cs hi=>by simp at hi⟩
    ·rcases hor with ⟨h1,_⟩|⟨g,arr,e',hg,hae,hh',hle'⟩
     ·exact absurd h1 hl0
     ·obtain ⟨hzz,hmat⟩:=hm.blk s t b hget
      rw[hg]at hmat
      obtain ⟨hB,arr2,e2,hh2,hcc⟩:=hmat
      rw[hh']at hh2
      obtain ⟨rfl,rfl⟩:arr=arr2/\e'=e2:=by simpa using hh2
      have hez:esz=z:=by
       have hlt:off<b.es.length:=by omega
       have h1:b.es[off]∈(b.es.drop off).take len:=by
        have:((b.es.drop off).take len)[0]? = some b.es[off]:=by
         rw[List.getElem?_take,if_pos (by omega),List.getElem?_drop]
         simp [hlt]
        exact zM this
       rw[<-hz _ h1,hzz _ (List.getElem_mem hlt),hbz]
      subst hez
      have hsz:off*esz+len*esz<=arr.size:=by
       have:(off+len)*esz<=(off+cap)*esz:=Nat.mul_le_mul_right _ (by omega)
       rw[Nat.add_mul]at this
       omega
      refine ⟨ad,cap,(arr.toList.drop (off*esz)).take (len*esz),by rw[hyl];exact hv,by rw[hyl];simp;omega,fun b' hb' j v hv' => ?_,fun _=>by rw[hae];rfl,fun i cs hi j c hj => ?_⟩
      ·rw[hae]at hb'
       obtain rfl:(⟨g,off*esz,none⟩:Addr)=b':=by simpa using hb'
       rw[List.getElem?_take]at hv'
       split at hv'
       ·rw[List.getElem?_drop]at hv'
        rw[G4,V9 hh']
        simpa using hv'
       ·cases hv'
      ·rw[List.getElem?_take]at hi
       split at hi
       ·rename_i hil
        rw[List.getElem?_drop]at hi
        have hjl:j<esz:=by rw[<-hbz,<-hzz cs (zM hi)];exact (zS hj).1
        obtain ⟨u,hu,hcu⟩:=hcc (off+i) cs hi j c hj
        refine ⟨u,?_,hcu⟩
        have hlt:i*esz+j<len*esz:=by
         have:(i+1)*esz<=len*esz:=Nat.mul_le_mul_right _ hil
         rw[Nat.succ_mul]at this
         omega
        rw[List.getElem?_take,if_pos hlt,List.getElem?_drop,<-hu,hbz]
        simp only[Array.getElem?_toList]
        congr 1
        rw[Nat.add_mul];omega
       ·cases hi
   ·cases he
 | con v' =>
  cases v' with
  | bool b =>
   simp only[D9,Option.some.injEq]at he
   subst he
   obtain ⟨ad,cap,hv,_⟩:=iG hc
   exact ⟨ad,cap,[],hv,by simp,fun b' hb' j v hv'=>by simp at hv',fun h=>absurd rfl h,fun i cs hi=>by simp at hi⟩
  | _=>simp [D9]at he
 | _=>simp [D9]at he
theorem S3.one {esz:Nat} {ys:List (List AV)} {ad:Option Addr} {news:List Value} (h:S3 B S m esz ys ad news) (h0:0<esz) (hz : ∀ e∈ys,e.length=esz) : ∀ u∈news,u.oneCell'=true:=by
 intro u hu
 obtain ⟨k,hk,rfl⟩:=List.getElem_of_mem hu
 rw[h.len]at hk
 have hd:k/esz<ys.length:=Nat.div_lt_of_lt_mul (by rw[Nat.mul_comm];exact hk)
 have hmo:k%esz<esz:=Nat.mod_lt _ h0
 have hel:(ys[k/esz]).length=esz:=hz _ (List.getElem_mem hd)
 obtain ⟨u',hu',hc⟩:=h.rel (k/esz) _ (zE hd) (k%esz) _ (zE (by rw[hel];exact hmo))
 have hkk:k/esz*esz+k%esz=k:=by
  have:=Nat.div_add_mod k esz
  rw[Nat.mul_comm]at this
  exact this
 rw[hkk]at hu'
 obtain rfl:news[k]=u':=by
  have:=(zS hu').2
  exact this
 exact hc.one
theorem S3.src {esz:Nat} {ys:List (List AV)} {ad:Option Addr} {news:List Value} (h:S3 B S m esz ys ad news) (h0:0<esz) (hz : ∀ e∈ys,e.length=esz) {t e:TypeId} (hu:P.underlying t=some (.slice e)) (cap:Nat):Src P esz t (.slice ad ys.length cap) ys.length news m.w:=by
 cases ad with
 | none =>
  have hys:ys=[]:=by
   cases ys with
   | nil=>rfl
   | cons y r=>exact absurd (h.some_ (by simp)) (by simp)
  subst hys
  have hn:news=[]:=List.eq_nil_of_length_eq_zero (by simpa using h.len)
  subst hn
  exact Src.ofNil m.w hu cap
 | some b=>exact Src.ofSlice m.w hu b ys.length cap news h.len (h.cells b rfl) (h.one h0 hz)
theorem oN (arr:Array Value) (off:Nat) (news:List Value) (h:off+news.length<=arr.size) (p:Nat):(arr.toList.take off++news++arr.toList.drop (off+news.length)).toArray[p]? = if p<off then arr[p]? else if p<off+news.length then news[p-off]? else arr[p]? := by
 simp only[List.getElem?_toArray]
 rw[X0 _ _ _ (by simpa using h)]
 simp only[Array.getElem?_toList]
theorem Agb (t tx e ex:TypeId) (i:TypeInfo) (ht:P.underlying t=some (.slice e)) (hx:P.underlying tx=some (.slice ex)) (hi:P.info? e=some i) (g off sLen sCap:Nat) (x:Value) (n:Nat) (news:List Value) (w:World) (hs:Src P i.size tx x n news w) (hroom:sLen+n<=sCap) (arr:Array Value) (e':TypeId)
  (hh:w.heap[g]? = some (.cells arr e' (0,0))) (hsz:off+sLen*i.size+news.length<=arr.size) (ty:TypeId) :
  (Builtin.append_ #[t,tx] ty #[.slice (some ⟨g,off,none⟩) sLen sCap,x]).run P w = .ok (.slice (some ⟨g,off,none⟩) (sLen+n) sCap) (w.setRow g (arr.toList.take (off+sLen*i.size)++news++arr.toList.drop (off+sLen*i.size+news.length)).toArray):=by
 have hst:=run_storeCells_at (P:=P) g (off+sLen*i.size) e' news 0 arr w hh (by omega) hs.one
 simp only[Nat.add_zero]at hst
 simp [Builtin.append_,run_underlying ht,run_underlying hx,sizeOf,typeInfo,hi,hs.len,hroom,hs.cells,G4,hst]
theorem pX (t tx e ex:TypeId) (i:TypeInfo) (ht:P.underlying t=some (.slice e)) (hx:P.underlying tx=some (.slice ex)) (hi:P.info? e=some i) (ad:Option Addr) (sCap:Nat) (x:Value) (w:World) (hs:Src P i.size tx x 0 [] w) (ty:TypeId) :
  (Builtin.append_ #[t,tx] ty #[.slice ad 0 sCap,x]).run P w = .ok (.slice ad 0 sCap) w:=by
 have hc:=hs.cells
 cases ad<;>simp [Builtin.append_,run_underlying ht,run_underlying hx,sizeOf,typeInfo,hi,hs.len,hc,storeCells]
theorem Q2 {x y:Operand} {t tx:TypeId} (hop:o.op = .call ⟨.builtin .append,#[x,y],#[t,tx]⟩) {u:Value} {w w':World} (h:(Builtin.append_ #[t,tx] o.type #[a.eval x,a.eval y]).run P w = .ok u w'):(execOp a.eval o).run P w = .ok (.value u) w':=by
 simp [execOp,hop,resolve,invoke,builtin,h]
theorem qA {x y:Operand} {t:TypeId} (hop:o.op = .call ⟨.builtin .copy,#[x,y],#[t,t]⟩) {u:Value} {w w':World} (h:(Builtin.copy_ #[t,t] o.type #[a.eval x,a.eval y]).run P w = .ok u w'):(execOp a.eval o).run P w = .ok (.value u) w':=by
 simp [execOp,hop,resolve,invoke,builtin,h]
theorem AbS (olds news:List Value) (z:Array Value) (k p:Nat) (h:p<olds.length+news.length):((olds++news).toArray++Builtin.zeroCells z k)[p]? = (olds++news)[p]? := by
 rw[Array.getElem?_append_left (by simpa using h)]
 simp
theorem Af5 {esz len:Nat} {xs ys:List (List AV)} {olds news:List Value} (hxl:xs.length=len) (hol:olds.length=len*esz) (hzx : ∀ e∈xs,e.length=esz)
  (hx : ∀ i cs,xs[i]? = some cs -> ∀ j c,cs[j]? = some c -> ∃ u,olds[i*esz+j]? = some u/\CC B S m c u)
  (hy : ∀ i cs,ys[i]? = some cs -> ∀ j c,cs[j]? = some c -> ∃ u,news[i*esz+j]? = some u/\CC B S m c u) :
  ∀ i cs,(xs++ys)[i]? = some cs -> ∀ j c,cs[j]? = some c -> ∃ u,(olds++news)[i*esz+j]? = some u/\CC B S m c u:=by
 intro i cs hi j c hj
 by_cases hil:i<len
 ·rw[List.getElem?_append_left (by omega)]at hi
  obtain ⟨u,hu,hc⟩:=hx i cs hi j c hj
  exact ⟨u,by rw[List.getElem?_append_left (by have:=(zS hu).1;omega)];exact hu,hc⟩
 ·rw[List.getElem?_append_right (by omega),hxl]at hi
  obtain ⟨u,hu,hc⟩:=hy (i-len) cs hi j c hj
  refine ⟨u,?_,hc⟩
  have e1:i*esz=len*esz+(i-len)*esz:=by rw[<-Nat.add_mul];congr 1;omega
  rw[List.getElem?_append_right (by omega),<-hu]
  congr 1;omega
theorem nW {s z n cap:Nat} {es:List (List AV)} {w':World} {g t:Nat} {arr:Array Value} {e:TypeId} (hz:0<z) (hn:n<=cap) (hg:w'.heap[g]? = some (.cells arr e (0,0))) (hc:cap*z<=arr.size) :
  CV B S ⟨newν m s (some g),m.own.put s (((m.own s).upd t none).new ⟨z,es⟩),w'⟩ (.row s (m.own.cnt s) z 0 n) (.slice (some ⟨g,0,none⟩) n cap):=by
 refine .ca (.one (.row s (m.own.cnt s) z 0 n _ cap ?_ hz hn (fun _=>rfl) fun b' hb'=>⟨?_,.inr ⟨g,arr,e,?_,by simp,hg,by simpa using hc⟩⟩))
 ·show _<AH.cnt _ s
  rw[WG];simp
 ·change AH.get _ s _=some b' at hb'
  rw[QM,if_pos ⟨rfl,rfl⟩]at hb'
  obtain rfl:(⟨z,es⟩:DN)=b':=by simpa using hb'
  rfl
 ·simp [newν]
theorem wX (hm:BR B S w0 m) (ob:Obj):Below B w0 (m.w.drew.alloc ob):=hm.below.drew.alloc (by simpa using hm.size) ob
theorem iX (hm:BR B S w0 m) (hs:CS B S m ρ a.eval) {s esz bytes:Nat} {x' y':AQ} (h:BA P num o.op (.app s esz bytes x' y')=true) {ys:List (List AV)} (hy:D9 m.own (ρ y')=some ys) (hz : ∀ e∈ys,e.length=esz) {s' t len:Nat} {b:DN} (hx:ρ x' = .row s' t esz 0 len) (hget:m.own.get s' t=some b)
  (hbz:b.esz=esz) (hle:len<=b.es.length) (hroom:(len+ys.length)*bytes<=EJ) (h63:len+ys.length<=9223372036854775807) :
  CW B S w0 P o a m (.tur (.row s' (m.own.cnt s') esz 0 (len+ys.length)) (m.own.put s' (((m.own s').upd t none).new ⟨esz,b.es.take len++ys⟩))):=by
 obtain ⟨x,y,ty,e,i,z,tx,ex,hop,h1,h2,hu,hi,hsz,hby,hz0,hzz,hne,hux⟩:=mR h
 have h0:0<esz:=Nat.pos_of_ne_zero hne
 obtain ⟨ad,cap,hev,ht,_,hlc,ha,hb⟩:=QD (hx ▸ hs x x' h1)
 obtain ⟨yad,ycap,news,hyv,hel⟩:=TU hm (hs y y' h2) hy hz h0
 have hsrc:Src P i.size tx (.slice yad ys.length ycap) ys.length news m.w:=by rw[hsz];exact hel.src h0 hz hux ycap
 obtain ⟨hbb,hmat⟩:=hm.blk s' t b hget
 obtain ⟨_,hor⟩:=hb b hget
 have htl:(b.es.take len).length=len:=by simp;omega
 have hzall : ∀ q∈b.es.take len++ys,q.length=esz:=fun q hq=>by
  rcases List.mem_append.1 hq with hq|hq
  ·rw[<-hbz];exact hbb q (List.mem_of_mem_take hq)
  ·exact hz q hq
 intro K Q hK
 by_cases hfit:len+ys.length<=cap
 ·rcases hor with ⟨hl0,hc0⟩|⟨g,arr,e',hg,hae,hh,hcz⟩
  ·have hys:ys=[]:=List.eq_nil_of_length_eq_zero (by omega)
   subst hys
   subst hl0 hc0
   have hn0:news=[]:=List.eq_nil_of_length_eq_zero (by simpa using hel.len)
   subst hn0
   have hrun:=pX ty tx e ex i hu hux hi ad 0 (.slice yad 0 ycap) m.w (by simpa using hsrc) o.type
   obtain ⟨k1,k2⟩:=bT hm s' t b ⟨esz,b.es.take 0++[]⟩ hget none m.w hm.below (Nat.le_refl _) (fun _ _ _=>rfl) (by simp) (by simp) (by simp)
   refine MF (Q2 hop (by rw[hev,hyv];simpa using hrun)) (hK _ ⟨newν m s' none,m.own.put s' (((m.own s').upd t none).new ⟨esz,b.es.take 0++[]⟩),m.w⟩ rfl k1 k2 (.ca (.one (.row s' (m.own.cnt s') esz 0 0 ad 0 ?_ h0 (Nat.le_refl _) (fun h=>by omega) fun b' hb'=>⟨?_,.inl ⟨rfl,rfl⟩⟩))))
   ·show _<AH.cnt _ s'
    rw[WG];simp
   ·change AH.get _ s' _=some b' at hb'
    rw[QM,if_pos ⟨rfl,rfl⟩]at hb'
    obtain rfl:(⟨esz,b.es.take 0++[]⟩:DN)=b':=by simpa using hb'
    rfl
  ·have hae':ad=some ⟨g,0,none⟩:=by simpa using hae
   rw[hg]at hmat
   obtain ⟨hB,arr2,e2,hh2,hcc⟩:=hmat
   rw[hh]at hh2
   obtain ⟨rfl,rfl⟩:arr=arr2/\e'=e2:=by simpa using hh2
   have hnl:news.length=ys.length*esz:=hel.len
   have hbound:len*esz+news.length<=arr.size:=by
    have:(len+ys.length)*esz<=(0+cap)*esz:=Nat.mul_le_mul_right _ (by omega)
    rw[Nat.add_mul]at this
    omega
   have hrun:=Agb ty tx e ex i hu hux hi g 0 len cap (.slice yad ys.length ycap) ys.length news m.w hsrc hfit arr e' hh (by rw[hsz];omega) o.type
   rw[hsz,Nat.zero_add]at hrun
   generalize harr':(arr.toList.take (len*esz)++news++arr.toList.drop (len*esz+news.length)).toArray=arr' at hrun
   have hg' : ∀ p,arr'[p]? = if p<len*esz then arr[p]? else if p<len*esz+news.length then news[p-len*esz]? else arr[p]? := fun p=>by rw[<-harr'];exact oN arr (len*esz) news hbound p
   have hsize':arr'.size=arr.size:=by rw[<-harr'];simp;omega
   obtain ⟨k1,k2⟩:=bT hm s' t b ⟨esz,b.es.take len++ys⟩ hget (some g) (m.w.setRow g arr') (YV hm hB arr') (by simp) (fun k _ hne'=>setRow_other _ _ _ _ (fun e=>hne' (e ▸ hg))) hzall (by simp) (fun g' hg2=>by
    obtain rfl:g=g':=by simpa using hg2
    refine ⟨hB,.inr hg,arr',e',setRow_heap _ _ _ _ _ _ hh,fun i' cs hi' j c hj => ?_⟩
    show ∃ u,arr'[i'*esz+j]? = some u/\_
    by_cases hil:i'<len
    ·rw[List.getElem?_append_left (by omega),List.getElem?_take,if_pos hil]at hi'
     have hjl:j<esz:=by rw[<-hbz,<-hbb cs (zM hi')];exact (zS hj).1
     obtain ⟨u,hu',hcu⟩:=hcc i' cs hi' j c hj
     refine ⟨u,?_,hcu⟩
     have:(i'+1)*esz<=len*esz:=Nat.mul_le_mul_right _ hil
     rw[Nat.succ_mul]at this
     rw[hg',if_pos (by omega),<-hu',hbz]
    ·rw[List.getElem?_append_right (by omega),htl]at hi'
     obtain ⟨u,hu',hcu⟩:=hel.rel (i'-len) cs hi' j c hj
     refine ⟨u,?_,hcu⟩
     have hul:=(zS hu').1
     have e1:i'*esz=len*esz+(i'-len)*esz:=by rw[<-Nat.add_mul];congr 1;omega
     rw[hg',if_neg (by omega),if_pos (by omega),<-hu']
     congr 1;omega)
   exact MF (Q2 hop (by rw[hev,hyv,hae'];exact hrun)) (hK _ ⟨newν m s' (some g),m.own.put s' (((m.own s').upd t none).new ⟨esz,b.es.take len++ys⟩),m.w.setRow g arr'⟩ rfl k1 k2 (nW h0 hfit (setRow_heap _ _ _ _ _ _ hh) (by rw[hsize'];simpa using hcz)))
 ·have hgrow:cap<len+ys.length:=by omega
  obtain ⟨olds,hol,hold,hrel⟩ : ∃ olds:List Value,olds.length=len*esz/\(Builtin.firstCells i.size len (.slice ad len cap)).run P m.w.drew = .ok olds.toArray m.w.drew/\(∀ i' cs,(b.es.take len)[i']? = some cs -> ∀ j c,cs[j]? = some c -> ∃ u,olds[i'*esz+j]? = some u/\CC B S m c u):=by
   rcases hor with ⟨hl0,hc0⟩|⟨g,arr,e',hg,hae,hh,hcz⟩
   ·subst hl0
    refine ⟨[],by simp,?_,fun i' cs hi'=>by simp at hi'⟩
    cases ad with
    | none=>exact run_firstCells_none m.w.drew i.size 0 0 cap
    | some ad'=>exact run_firstCells_some m.w.drew i.size 0 ad' 0 cap [] (by simp) (fun j v hv=>by simp at hv)
   ·have hae':ad=some ⟨g,0,none⟩:=by simpa using hae
    rw[hg]at hmat
    obtain ⟨hB,arr2,e2,hh2,hcc⟩:=hmat
    rw[hh]at hh2
    obtain ⟨rfl,rfl⟩:arr=arr2/\e'=e2:=by simpa using hh2
    have hcl:len*esz<=arr.size:=by
     have:len*esz<=(0+cap)*esz:=Nat.mul_le_mul_right _ (by omega)
     omega
    refine ⟨arr.toList.take (len*esz),by simp;omega,?_,fun i' cs hi' j c hj => ?_⟩
    ·rw[hae']
     refine run_firstCells_some m.w.drew i.size len ⟨g,0,none⟩ len cap _ (by rw[hsz];simp;omega) (fun j v hv => ?_)
     rw[List.getElem?_take]at hv
     split at hv
     ·rw[G4,V9 (w:=m.w.drew) (show m.w.heap[g]? = _ from hh)]
      simpa using hv
     ·cases hv
    ·rw[List.getElem?_take]at hi'
     split at hi'
     ·rename_i hil
      have hjl:j<esz:=by rw[<-hbz,<-hbb cs (zM hi')];exact (zS hj).1
      obtain ⟨u,hu',hcu⟩:=hcc i' cs hi' j c hj
      refine ⟨u,?_,hcu⟩
      have:(i'+1)*esz<=len*esz:=Nat.mul_le_mul_right _ hil
      rw[Nat.succ_mul]at this
      rw[List.getElem?_take,if_pos (by omega),<-hu',hbz]
      simp
     ·cases hi'
  have hrun:=run_append_grow_src (P:=P) m.w ty tx o.type e i z hu hi hz0 ad len cap olds hold (.slice yad ys.length ycap) ys.length news hsrc hgrow (by omega) (growslice_fits hgrow (by rw[hby];exact hroom))
  have hnl:news.length=ys.length*esz:=hel.len
  have hcap:len+ys.length<=grownCap m.w (len+ys.length) cap e:=grownCap_ge _ _ _ _
  generalize hgc:grownCap m.w (len+ys.length) cap e=gc at hrun hcap
  have hbel:=wX hm (.cells ((olds++news).toArray++Builtin.zeroCells z.cells (gc-(len+ys.length))) e)
  have hnew:(m.w.drew.alloc (.cells ((olds++news).toArray++Builtin.zeroCells z.cells (gc-(len+ys.length))) e)).heap[m.w.heap.size]? = some (.cells ((olds++news).toArray++Builtin.zeroCells z.cells (gc-(len+ys.length))) e (0,0)):=heap_alloc_new m.w.drew _
  obtain ⟨k1,k2⟩:=bT hm s' t b ⟨esz,b.es.take len++ys⟩ hget (some m.w.heap.size) _ hbel (by simp) (fun k hk _=>Below.heap_alloc m.w.drew _ k hk) hzall (by simp) (fun g' hg2=>by
   obtain rfl:m.w.heap.size=g':=by simpa using hg2
   refine ⟨hm.size,.inl (Nat.le_refl _),_,e,hnew,fun i' cs hi' j c hj => ?_⟩
   obtain ⟨u,hu',hcu⟩:=Af5 htl hol (fun q hq=>by rw[<-hbz];exact hbb q (List.mem_of_mem_take hq)) hrel hel.rel i' cs hi' j c hj
   refine ⟨u,?_,hcu⟩
   rw[AbS _ _ _ _ _ (by have:=(zS hu').1;simpa using this)]
   exact hu')
  refine MF (Q2 hop (by rw[hev,hyv];exact hrun)) (hK _ ⟨newν m s' (some m.w.heap.size),m.own.put s' (((m.own s').upd t none).new ⟨esz,b.es.take len++ys⟩),_⟩ rfl k1 k2 (nW h0 hcap hnew ?_))
  have hzc:(Builtin.zeroCells z.cells (gc-(len+ys.length))).size=(gc-(len+ys.length))*esz:=by simp [Builtin.zeroCells,hzz]
  rw[Array.size_append,hzc]
  simp only[List.size_toArray,List.length_append,hol,hnl]
  rw[<-Nat.add_mul,<-Nat.add_mul]
  exact Nat.mul_le_mul_right _ (by omega)
theorem zF (hm:BR B S w0 m) (hs:CS B S m ρ a.eval) {s esz bytes:Nat} {x' y':AQ} (h:BA P num o.op (.app s esz bytes x' y')=true) {ys:List (List AV)} (hy:D9 m.own (ρ y')=some ys) (hz : ∀ e∈ys,e.length=esz) (hx:ρ x' = .nil)
  (hroom:ys.length*bytes<=EJ) (h63:ys.length<=9223372036854775807) :
  CW B S w0 P o a m (.tur (.row s (m.own.cnt s) esz 0 ys.length) (m.own.put s ((m.own s).new ⟨esz,ys⟩))):=by
 obtain ⟨x,y,ty,e,i,z,tx,ex,hop,h1,h2,hu,hi,hsz,hby,hz0,hzz,hne,hux⟩:=mR h
 have h0:0<esz:=Nat.pos_of_ne_zero hne
 have hev:=OH (hx ▸ hs x x' h1)
 obtain ⟨yad,ycap,news,hyv,hel⟩:=TU hm (hs y y' h2) hy hz h0
 have hsrc:Src P i.size tx (.slice yad ys.length ycap) ys.length news m.w:=by rw[hsz];exact hel.src h0 hz hux ycap
 intro K Q hK
 by_cases hys:ys=[]
 ·subst hys
  have hn0:news=[]:=List.eq_nil_of_length_eq_zero (by simpa using hel.len)
  subst hn0
  have hrun:=pX ty tx e ex i hu hux hi none 0 (.slice yad 0 ycap) m.w (by simpa using hsrc) o.type
  obtain ⟨k1,k2⟩:=sG hm s esz
  refine MF (Q2 hop (by rw[hev,hyv];simpa using hrun)) (hK _ ⟨newν m s none,m.own.put s ((m.own s).new ⟨esz,[]⟩),m.w⟩ rfl k1 k2 (.ca (.one (.row s (m.own.cnt s) esz 0 0 none 0 ?_ h0 (Nat.le_refl _) (fun h=>by omega) fun b' hb'=>⟨?_,.inl ⟨rfl,rfl⟩⟩))))
  ·show _<AH.cnt _ s
   rw[M4];simp
  ·change AH.get _ s _=some b' at hb'
   rw[FU,if_pos ⟨rfl,rfl⟩]at hb'
   obtain rfl:(⟨esz,[]⟩:DN)=b':=by simpa using hb'
   rfl
 ·have hpos:0<ys.length:=List.length_pos_iff.2 hys
  have hrun:=run_append_grow_src (P:=P) m.w ty tx o.type e i z hu hi hz0 none 0 0 [] (run_firstCells_none m.w.drew i.size 0 0 0) (.slice yad ys.length ycap) ys.length news hsrc (by omega) (by omega) (growslice_fits (by omega) (by rw[hby,Nat.zero_add];exact hroom))
  simp only[Nat.zero_add,List.nil_append]at hrun
  have hnl:news.length=ys.length*esz:=hel.len
  have hcap:ys.length<=grownCap m.w ys.length 0 e:=grownCap_ge _ _ _ _
  generalize hgc:grownCap m.w ys.length 0 e=gc at hrun hcap
  have hd:Below m.w.heap.size m.w m.w.drew:=(Below.refl _ _).drew
  obtain ⟨hm1,he1⟩:=grow hm hd
  obtain ⟨k1,k2⟩:=TF hm1 s ⟨esz,ys⟩ (news.toArray++Builtin.zeroCells z.cells (gc-ys.length)) e hz (fun i' cs hi' j c hj=>by
   obtain ⟨u,hu',hcu⟩:=hel.rel i' cs hi' j c hj
   refine ⟨u,?_,he1.cc hcu⟩
   have hul:=(zS hu').1
   show (news.toArray++Builtin.zeroCells z.cells (gc-ys.length))[i'*esz+j]? = some u
   rw[Array.getElem?_append_left (by simpa using hul)]
   simpa using hu')
  have hzc:(Builtin.zeroCells z.cells (gc-ys.length)).size=(gc-ys.length)*esz:=by simp [Builtin.zeroCells,hzz]
  refine MF (Q2 hop (by rw[hev,hyv];exact hrun)) (hK _ ⟨newν ⟨m.ν,m.own,m.w.drew⟩ s (some m.w.drew.heap.size),m.own.put s ((m.own s).new ⟨esz,ys⟩),_⟩ rfl k1 (he1.trans k2) (W9 (m:=⟨m.ν,m.own,m.w.drew⟩) h0 hcap (heap_alloc_new m.w.drew _) ?_))
  rw[Array.size_append,hzc]
  simp only[List.size_toArray,hnl]
  rw[<-Nat.add_mul]
  exact Nat.mul_le_mul_right _ (by omega)
theorem zD (hm:BR B S w0 m) (hs:CS B S m ρ a.eval) {s esz bytes:Nat} {x' y':AQ} (h:BA P num o.op (.apd s esz bytes x' y')=true) {ys:List (List AV)} (hy:D9 m.own (ρ y')=some ys) (hz : ∀ e∈ys,e.length=esz) (hx:ρ x' = .nil)
  (hpos:0<ys.length) (hroom:ys.length*bytes<=EJ) (h63:ys.length<=9223372036854775807) :
  CW B S w0 P o a m (.new s ⟨esz,ys⟩ (fun t => .row s t esz 0 ys.length)):=by
 obtain ⟨x,y,ty,e,i,z,tx,ex,hop,h1,h2,hu,hi,hsz,hby,hz0,hzz,hne,hux⟩:=Acv h
 have h0:0<esz:=Nat.pos_of_ne_zero hne
 have hev:=OH (hx ▸ hs x x' h1)
 obtain ⟨yad,ycap,news,hyv,hel⟩:=TU hm (hs y y' h2) hy hz h0
 have hsrc:Src P i.size tx (.slice yad ys.length ycap) ys.length news m.w:=by rw[hsz];exact hel.src h0 hz hux ycap
 intro K Q hK
 have hrun:=run_append_grow_src (P:=P) m.w ty tx o.type e i z hu hi hz0 none 0 0 [] (run_firstCells_none m.w.drew i.size 0 0 0) (.slice yad ys.length ycap) ys.length news hsrc (by omega) (by omega) (growslice_fits (by omega) (by rw[hby,Nat.zero_add];exact hroom))
 simp only[Nat.zero_add,List.nil_append]at hrun
 have hnl:news.length=ys.length*esz:=hel.len
 have hcap:ys.length<=grownCap m.w ys.length 0 e:=grownCap_ge _ _ _ _
 generalize hgc:grownCap m.w ys.length 0 e=gc at hrun hcap
 have hd:Below m.w.heap.size m.w m.w.drew:=(Below.refl _ _).drew
 obtain ⟨hm1,he1⟩:=grow hm hd
 obtain ⟨k1,k2⟩:=TF hm1 s ⟨esz,ys⟩ (news.toArray++Builtin.zeroCells z.cells (gc-ys.length)) e hz (fun i' cs hi' j c hj=>by
  obtain ⟨u,hu',hcu⟩:=hel.rel i' cs hi' j c hj
  refine ⟨u,?_,he1.cc hcu⟩
  have hul:=(zS hu').1
  show (news.toArray++Builtin.zeroCells z.cells (gc-ys.length))[i'*esz+j]? = some u
  rw[Array.getElem?_append_left (by simpa using hul)]
  simpa using hu')
 have hzc:(Builtin.zeroCells z.cells (gc-ys.length)).size=(gc-ys.length)*esz:=by simp [Builtin.zeroCells,hzz]
 refine MF (Q2 hop (by rw[hev,hyv];exact hrun)) (hK _ ⟨newν ⟨m.ν,m.own,m.w.drew⟩ s (some m.w.drew.heap.size),m.own.put s ((m.own s).new ⟨esz,ys⟩),_⟩ rfl k1 (he1.trans k2) (W9 (m:=⟨m.ν,m.own,m.w.drew⟩) h0 hcap (heap_alloc_new m.w.drew _) ?_))
 rw[Array.size_append,hzc]
 simp only[List.size_toArray,hnl]
 rw[<-Nat.add_mul]
 exact Nat.mul_le_mul_right _ (by omega)
theorem Agc (w:World) (t tx ty e:TypeId) (i:TypeInfo) (z:Value) (ht:P.underlying t=some (.slice e)) {k:IntKind} (hk:P.underlying tx=some (.int k)) (hi:P.info? e=some i) (hz:i.zero=some z) (k':IntKind) (n:Nat)
  (hn:0<n) (h63:(n:Int)<=9223372036854775807) (h48:n*i.bytes<=EJ) (hne:i.size≠0) :
  (Builtin.append_ #[t,tx] ty #[.slice none 0 0,.int k' n]).run P w =
   .ok (.slice (some ⟨w.heap.size,0,none⟩) n (grownCap w n 0 e))
    (w.drew.alloc (.cells (Builtin.zeroCells z.cells n++Builtin.zeroCells z.cells (grownCap w n 0 e-n)) e)):=by
 have hfit:=growslice_fits (old:=0) (need:=n) (bytes:=i.bytes) hn h48
 have h1 : ¬ (n:Int)<0:=by omega
 have h2 : ¬ n=0:=by omega
 have h3 : ¬ (9223372036854775807<(n:Int)):=by omega
 have h5 : ¬ (281474976710656<Builtin.nextslicecap n 0*i.bytes):=by omega
 have h6 : ¬ ((281474976710656:Int)<(n:Int)*(i.bytes:Int)):=by
  have h48':n*i.bytes<=140737488355328:=h48
  have h7:=Int.ofNat_le.2 h48'
  rw[Int.natCast_mul]at h7
  omega
 have hA : ∀ w':World,(asIntOf (.int k' n)).run P w' = .ok (k',(n:Int)) w':=fun w'=>rfl
 have e1:IntKind.i64.wrap (n:Int)=n:=by rw[IntKind.wrap_i64];omega
 generalize hw:IntKind.i64.wrap (n:Int)=q at e1
 subst e1
 simp [Builtin.append_,run_underlying ht,run_underlying hk,sizeOf,typeInfo,zeroValue,hi,hz,asInt,hA,hw,h1,h2,h3,h5,h6,hne,Question.forced,Builtin.firstCells,newRow,grownCap]
 intro h
 rcases Nat.mul_eq_zero.1 h with h|h
 ·exact absurd h h2
 ·exact absurd h hne
theorem zG (hm:BR B S w0 m) (hs:CS B S m ρ a.eval) {s esz bytes:Nat} {x' y':AQ} (h:BA P num o.op (.apz s esz bytes x' y')=true) (hx:ρ x' = .nil) {k':IntKind} {n:Int} (hy:ρ y' = .int k' n)
  (hn:0<n) (hroom:n*bytes<=EJ) (h63:n<=9223372036854775807) :
  CW B S w0 P o a m (.new s ⟨esz,[]⟩ (fun t => .row s t esz 0 n.toNat)):=by
 obtain ⟨x,y,ty,e,i,z,tx,k,hop,h1,h2,hu,hi,hsz,hby,hz0,hzz,hne,hux⟩:=Acx h
 have h0:0<esz:=Nat.pos_of_ne_zero hne
 have hev:=OH (hx ▸ hs x x' h1)
 have hey:=GR (hy ▸ hs y y' h2)
 obtain ⟨q,rfl⟩ : ∃ q:Nat,n=q:=⟨n.toNat,by omega⟩
 simp only[Int.toNat_natCast]
 intro K Q hK
 have hrun:=Agc (P:=P) m.w ty tx o.type e i z hu hux hi hz0 k' q (by omega) h63 (by
  rw[hby]
  rw[<-Int.natCast_mul]at hroom
  exact Int.ofNat_le.1 hroom) (by rw[hsz];exact hne)
 have hcap:q<=grownCap m.w q 0 e:=grownCap_ge _ _ _ _
 generalize hgc:grownCap m.w q 0 e=gc at hrun hcap
 have hd:Below m.w.heap.size m.w m.w.drew:=(Below.refl _ _).drew
 obtain ⟨hm1,he1⟩:=grow hm hd
 obtain ⟨k1,k2⟩:=TF hm1 s ⟨esz,[]⟩ (Builtin.zeroCells z.cells q++Builtin.zeroCells z.cells (gc-q)) e (by simp) (fun i' cs hi' j c hj=>by simp at hi')
 have hzc : ∀ n,(Builtin.zeroCells z.cells n).size=n*esz:=fun n=>by simp [Builtin.zeroCells,hzz]
 refine MF (Q2 hop (by rw[hev,hey];exact hrun)) (hK _ ⟨newν ⟨m.ν,m.own,m.w.drew⟩ s (some m.w.drew.heap.size),m.own.put s ((m.own s).new ⟨esz,[]⟩),_⟩ rfl k1 (he1.trans k2) (W9 (m:=⟨m.ν,m.own,m.w.drew⟩) h0 hcap (heap_alloc_new m.w.drew _) ?_))
 rw[Array.size_append,hzc,hzc,<-Nat.add_mul]
 exact Nat.mul_le_mul_right _ (by omega)
end
end Go.Eng

namespace Go.Eng
open Go.RowKit
section
variable {B:Nat} {S:Nat->Prop} {w0:World} {m:M}
variable {P:Program} {num:Nat->Nat} {o:Oper} {a:Act} {ρ:AQ->AV}
theorem AgZ (ow:AH) (s t:Nat) (b:DN) (h:ow.get s t=some b):ow.put s ((ow s).upd t (some b))=ow:=by
 funext s'
 unfold AH.put CO.upd
 by_cases hs:s'=s
 ·subst hs
  rw[if_pos rfl]
  unfold AH.get at h
  cases hx:ow s' with
  | mk c f =>
   rw[hx]at h
   simp only at h
   congr
   funext t'
   by_cases ht:t'=t
   ·subst ht;simp [h]
   ·simp [ht]
 ·simp [hs]
theorem pY (ty e:TypeId) (i:TypeInfo) (hu:P.underlying ty=some (.slice e)) (hi:P.info? e=some i) (ad:Option Addr) (dLen dCap:Nat) (yad:Option Addr) (yl yc:Nat) (cs:List Value) (w w':World) (rt:TypeId)
  (hf:(Builtin.firstCells i.size (Nat.min yl dLen) (.slice yad yl yc)).run P w = .ok cs.toArray w) (hst : ∀ b,ad=some b->(storeCells b cs).run P w = .ok () w') (hn:ad=none->w'=w) :
  (Builtin.copy_ #[ty,ty] rt #[.slice ad dLen dCap,.slice yad yl yc]).run P w = .ok (goInt (Nat.min yl dLen)) w':=by
 cases ad with
 | none=>rw[hn rfl];simp [Builtin.copy_,run_underlying hu,sizeOf,typeInfo,hi,Builtin.lenOf,hf]
 | some b=>simp [Builtin.copy_,run_underlying hu,sizeOf,typeInfo,hi,Builtin.lenOf,hf,hst b rfl]
theorem zV (hm:BR B S w0 m) (hs:CS B S m ρ a.eval) {esz:Nat} {x' y':AQ} (h:BA P num o.op (.cpy esz x' y')=true) {ys:List (List AV)} (hy:D9 m.own (ρ y')=some ys) (hz : ∀ e∈ys,e.length=esz) {s t off len:Nat} {b:DN} (hx:ρ x' = .row s t esz off len) (hget:m.own.get s t=some b)
  (hbz:b.esz=esz) (hle:off+len<=b.es.length) :
  CW B S w0 P o a m (.tur (.int .i64 (min ys.length len:Nat)) (m.own.put s ((m.own s).upd t (some ⟨esz,b.es.take off++ys.take len++b.es.drop (off+min ys.length len)⟩)))):=by
 obtain ⟨x,y,ty,e,i,hop,h1,h2,hu,hi,hsz,hne⟩:=AcJ h
 have h0:0<esz:=Nat.pos_of_ne_zero hne
 obtain ⟨ad,cap,hev,ht,_,hlc,ha,hb⟩:=QD (hx ▸ hs x x' h1)
 obtain ⟨yad,ycap,news,hyv,hel⟩:=TU hm (hs y y' h2) hy hz h0
 obtain ⟨hbb,hmat⟩:=hm.blk s t b hget
 obtain ⟨_,hor⟩:=hb b hget
 have hnl:news.length=ys.length*esz:=hel.len
 have hkle:min ys.length len*esz<=news.length:=by rw[hnl];exact Nat.mul_le_mul_right _ (Nat.min_le_left _ _)
 have hcsl:(news.take (min ys.length len*esz)).length=min ys.length len*esz:=by simp;omega
 have hf:(Builtin.firstCells i.size (Nat.min ys.length len) (.slice yad ys.length ycap)).run P m.w = .ok (news.take (min ys.length len*esz)).toArray m.w:=by
  cases hyad:yad with
  | none =>
   have hys:ys=[]:=by
    cases ys with
    | nil=>rfl
    | cons q r=>exact absurd (hel.some_ (by simp)) (by simp [hyad])
   subst hys
   simp only[List.length_nil,Nat.zero_min,Nat.zero_mul,List.take_zero]
   have:=run_firstCells_none (P:=P) m.w i.size 0 0 ycap
   simpa using this
  | some yb =>
   refine run_firstCells_some m.w i.size _ yb ys.length ycap _ (by rw[hcsl,hsz]) (fun j v hv => ?_)
   rw[List.getElem?_take]at hv
   split at hv
   ·exact hel.cells yb hyad j v hv
   ·cases hv
 intro K Q hK
 by_cases hk:min ys.length len=0
 ·have hc0:news.take (min ys.length len*esz)=[]:=by rw[hk];simp
  have hown:m.own.put s ((m.own s).upd t (some ⟨esz,b.es.take off++ys.take len++b.es.drop (off+min ys.length len)⟩))=m.own:=by
   have hyt:ys.take len=[]:=by
    apply List.eq_nil_of_length_eq_zero
    rw[List.length_take];omega
   rw[hk,hyt]
   have:b=⟨esz,b.es.take off++[]++b.es.drop (off+0)⟩:=by
    cases b with
    | mk z es=>simp at hbz;subst hbz;simp
   rw[<-this]
   exact AgZ _ _ _ _ hget
  have hrun:=pY ty e i hu hi ad len cap yad ys.length ycap _ m.w m.w o.type hf (fun b' _=>by rw[hc0];rfl) (fun _=>rfl)
  refine MF (qA hop (by rw[hev,hyv];exact hrun)) (hK _ m hown.symm hm (DD.refl m) (M8 _ _))
 ·rcases hor with ⟨hl0,hc0⟩|⟨g,arr,e',hg,hae,hh,hcz⟩
  ·omega
  ·rw[hg]at hmat
   obtain ⟨hB,arr2,e2,hh2,hcc⟩:=hmat
   rw[hh]at hh2
   obtain ⟨rfl,rfl⟩:arr=arr2/\e'=e2:=by simpa using hh2
   have hbound:off*esz+(news.take (min ys.length len*esz)).length<=arr.size:=by
    rw[hcsl,<-Nat.add_mul]
    exact Nat.le_trans (Nat.mul_le_mul_right _ (by omega)) hcz
   have hone : ∀ u∈news.take (min ys.length len*esz),u.oneCell'=true:=fun u hu'=>hel.one h0 hz u (List.mem_of_mem_take hu')
   have hst:=run_storeCells_at (P:=P) g (off*esz) e' (news.take (min ys.length len*esz)) 0 arr m.w hh (by omega) hone
   simp only[Nat.add_zero]at hst
   generalize harr':(arr.toList.take (off*esz)++news.take (min ys.length len*esz)++arr.toList.drop (off*esz+(news.take (min ys.length len*esz)).length)).toArray=arr' at hst
   have hg' : ∀ p,arr'[p]? = if p<off*esz then arr[p]? else if p<off*esz+min ys.length len*esz then (news.take (min ys.length len*esz))[p-off*esz]? else arr[p]? := fun p=>by
    rw[<-harr',oN arr (off*esz) _ hbound p,hcsl]
   have hsize':arr'.size=arr.size:=by rw[<-harr'];simp;omega
   obtain ⟨k1,k2⟩:=sC hm s t b ⟨esz,b.es.take off++ys.take len++b.es.drop (off+min ys.length len)⟩ hget g hg arr arr' e' hh hbz.symm (fun q hq=>by
     rcases List.mem_append.1 hq with hq|hq
     ·rcases List.mem_append.1 hq with hq|hq
      ·rw[<-hbz];exact hbb q (List.mem_of_mem_take hq)
      ·exact hz q (List.mem_of_mem_take hq)
     ·rw[<-hbz];exact hbb q (List.mem_of_mem_drop hq)) hsize'
    (fun i' cs hi' j c hj=>by
     show ∃ u,arr'[i'*esz+j]? = some u/\_
     have hyl:(ys.take len).length=min ys.length len:=by simp;omega
     change (b.es.take off++ys.take len++b.es.drop (off+min ys.length len))[i']? = some cs at hi'
     have hyl':=hyl
     rw[<-hyl',X0 _ _ _ (by rw[hyl];omega),hyl]at hi'
     by_cases hi1:i'<off
     ·rw[if_pos hi1]at hi'
      have hjl:j<esz:=by rw[<-hbz,<-hbb cs (zM hi')];exact (zS hj).1
      obtain ⟨u,hu',hcu⟩:=hcc i' cs hi' j c hj
      have:(i'+1)*esz<=off*esz:=Nat.mul_le_mul_right _ hi1
      rw[Nat.succ_mul]at this
      exact ⟨u,by rw[hg',if_pos (by omega),<-hu',hbz],hcu⟩
     ·rw[if_neg hi1]at hi'
      have e1:i'*esz=off*esz+(i'-off)*esz:=by rw[<-Nat.add_mul];congr 1;omega
      by_cases hi2:i'<off+min ys.length len
      ·rw[if_pos hi2,List.getElem?_take,if_pos (by omega)]at hi'
       have hjl:j<esz:=by rw[<-hz cs (zM hi')];exact (zS hj).1
       obtain ⟨u,hu',hcu⟩:=hel.rel (i'-off) cs hi' j c hj
       have h3:(i'-off+1)*esz<=min ys.length len*esz:=Nat.mul_le_mul_right _ (by omega)
       rw[Nat.succ_mul]at h3
       refine ⟨u,?_,hcu⟩
       rw[hg',if_neg (by omega),if_pos (by omega),List.getElem?_take,if_pos (by omega),<-hu']
       congr 1;omega
      ·rw[if_neg hi2]at hi'
       obtain ⟨u,hu',hcu⟩:=hcc i' cs hi' j c hj
       have h3:(off+min ys.length len)*esz<=i'*esz:=Nat.mul_le_mul_right _ (by omega)
       rw[Nat.add_mul]at h3
       exact ⟨u,by rw[hg',if_neg (by omega),if_neg (by omega),<-hu',hbz],hcu⟩)
    (m.w.setRow g arr') (YV hm hB arr') (by simp) (fun k hk=>setRow_other _ _ _ _ hk) (setRow_heap _ _ _ _ _ _ hh)
   have hrun:=pY ty e i hu hi ad len cap yad ys.length ycap _ m.w (m.w.setRow g arr') o.type hf (fun b' hb'=>by
    rw[hae]at hb'
    obtain rfl:(⟨g,off*esz,none⟩:Addr)=b':=by simpa using hb'
    exact hst) (fun hn=>by rw[hae]at hn;cases hn)
   exact MF (qA hop (by rw[hev,hyv];exact hrun)) (hK _ ⟨m.ν,_,m.w.setRow g arr'⟩ rfl k1 k2 (M8 _ _))
structure HH (P:Program) (num:Nat->Nat) (C:Cl):Prop where
 enterP : ∀ (f:Nat) (vs:List AV) (r:AV),C.pure f vs=some r -> ∀ (us:Array Value) (w:World),(callFunc (num f) us).run P w = .ok (.enter (num f) us) w
 enterI : ∀ (f:Nat) (vs:List AV) (own:AH) (r:AV × AH),C.inn f vs own=some r -> ∀ (us:Array Value) (w:World),(callFunc (num f) us).run P w = .ok (.enter (num f) us) w
 pure : ∀ (f:Nat) (vs:List AV) (r:AV),C.pure f vs=some r -> ∀ (S:Nat->Prop) (w:World) (us:List Value),vs.length=us.length->(∀ (j:Nat) (c:AV) (v:Value),vs[j]? = some c->us[j]? = some v->CA w.heap.size S ⟨fun _ _=>none,AH.emp,w⟩ c v) ->
  Calls P (num f) us.toArray w fun e w' => ∃ u,e = .returned u/\Below w.heap.size w w'/\CV w.heap.size S ⟨fun _ _=>none,AH.emp,w'⟩ r u/\A9 r
 inn : ∀ (f:Nat) (vs:List AV) (own:AH) (r:AV) (own':AH),C.inn f vs own=some (r,own') -> ∀ (B:Nat) (S:Nat->Prop) (w0:World) (m:M) (us:List Value),m.own=own->BR B S w0 m->vs.length=us.length->(∀ (j:Nat) (c:AV) (v:Value),vs[j]? = some c->us[j]? = some v->CV B S m c v) ->
  Calls P (num f) us.toArray m.w fun e w' => ∃ u m',e = .returned u/\m'.w=w'/\m'.own=own'/\BR B S w0 m'/\DD B S m m'/\CV B S m' r u
 num:C.num=num
end
end Go.Eng

namespace Go.Eng
open Go.RowKit
theorem ON {α β:Type} (f:α->Option β) : ∀ {l:List α} {l':List β},l.mapM f=some l'->l.length=l'.length /\ ∀ (i:Nat) (x:α),l[i]? = some x -> ∃ y,l'[i]? = some y/\f x=some y
 | [],l',h=>by
  simp at h;subst h
  exact ⟨rfl,fun i x hx=>by simp at hx⟩
 | x::r,l',h=>by
  simp only[List.mapM_cons,Option.bind_eq_bind,Option.pure_def]at h
  cases hx:f x with
  | none=>simp [hx]at h
  | some y =>
   cases hr:r.mapM f with
   | none=>simp [hx,hr]at h
   | some r' =>
    simp [hx,hr]at h
    subst h
    obtain ⟨h1,h2⟩:=ON f hr
    refine ⟨by simp [h1],fun i z hz => ?_⟩
    cases i with
    | zero=>simp at hz;subst hz;exact ⟨y,rfl,hx⟩
    | succ i=>exact h2 i z (by simpa using hz)
section
variable {B:Nat} {S:Nat->Prop} {w0:World} {m:M}
variable {P:Program} {num:Nat->Nat} {o:Oper} {a:Act} {ρ:AQ->AV}
theorem qX (hm:BR B S w0 m) (l0:Bool) (R:Bool->Nat->Prop) (hR : ∀ l b,b<m.w.heap.size->safe B S m l b->R l b) (hL : ∀ s t g,live m s t->m.ν s t=some g->R l0 g) :
  ∀ (d:Nat) (c c':AV) (v:Value),snap m.own l0 d c=some c'->CC B S m c v->Rd m.w R c' v:=by
 intro d
 induction d with
 | zero =>
  intro c c' v h hc
  cases hc with
  | rd hr =>
   have:c'=c:=by cases hr<;>simp [snap]at h<;>exact h.symm
   subst this
   exact hr.mono hR (fun _ _ _ _=>rfl)
  | nil=>simp [snap]at h;subst h;exact .sl0 _ _ _
  | _=>simp [snap]at h
 | succ d ih =>
  intro c c' v h hc
  cases hc with
  | rd hr =>
   have:c'=c:=by cases hr<;>simp [snap]at h<;>exact h.symm
   subst this
   exact hr.mono hR (fun _ _ _ _=>rfl)
  | nil=>simp [snap]at h;subst h;exact .sl0 _ _ _
  | ptr=>simp [snap]at h
  | dptr=>simp [snap]at h
  | row s t z off len ad cap ht hz0 hlc ha hb =>
   simp only[snap]at h
   cases hel:D9 m.own (.row s t z off len) with
   | none=>simp [hel]at h
   | some es =>
    simp only[hel]at h
    cases hes:es.mapM (fun cs:List AV=>cs.mapM (snap m.own l0 d)) with
    | none=>simp [hes]at h
    | some es' =>
     simp [hes]at h
     subst h
     have hzes:(∀ e∈es,e.length=z)/\es.length=len /\ ∃ b,m.own.get s t=some b:=by
      simp only[D9]at hel
      cases hget:m.own.get s t with
      | none=>simp [hget]at hel
      | some b =>
       simp only[hget]at hel
       split at hel
       ·rename_i hle
        obtain rfl:=Option.some.inj hel
        refine ⟨fun e he => ?_,by simp;omega,b,rfl⟩
        rw[<-hle.2]
        exact (hm.blk s t b hget).1 e (List.mem_of_mem_drop (List.mem_of_mem_take he))
       ·cases hel
     obtain ⟨hz,hlen,b,hget⟩:=hzes
     have hcv:CV B S m (.row s t z off len) (.slice ad len cap):= .ca (.one (.row s t z off len ad cap ht hz0 hlc ha hb))
     obtain ⟨ad2,cap2,news,hv2,hE⟩:=TU hm hcv hel hz hz0
     obtain ⟨rfl,_,rfl⟩:ad=ad2/\len=es.length/\cap=cap2:=by simpa using hv2
     obtain ⟨hl1,hget1⟩:=ON _ hes
     by_cases h0:es=[]
     ·subst h0
      have:es'=[]:=List.eq_nil_of_length_eq_zero (by rw[<-hl1];rfl)
      subst this
      have:len=0:=by rw[<-hlen];rfl
      subst this
      exact .sl0 _ _ _
     ·obtain ⟨_,hor⟩:=hb b hget
      rcases hor with ⟨hl0',_⟩|⟨g,arr,e',hg,hae,hh,hcz⟩
      ·exact absurd (List.eq_nil_of_length_eq_zero (by omega)) h0
      ·rw[hae,<-hlen,hl1]
       refine .sl l0 es' g (off*z) z cap (fun i j=>news.getD (i*z+j) undef) (fun e=>h0 (List.eq_nil_of_length_eq_zero (by rw[hl1,e];rfl))) hz0 (hL s t g ⟨b,hget⟩ hg) (by omega) (fun e' he' => ?_) (fun i e hi j c hj => ?_) (fun i e hi j c hj => ?_)
       ·obtain ⟨i,hi,rfl⟩:=List.getElem_of_mem he'
        have hi':i<es.length:=by omega
        obtain ⟨y,hy,hfy⟩:=hget1 i es[i] (zE hi')
        have:es'[i]=y:=by
         have:=(zS hy).2;exact this
        rw[this,<-(ON _ hfy).1]
        exact hz _ (List.getElem_mem hi')
       ·have hi':i<es.length:=by rw[hl1];exact (zS hi).1
        obtain ⟨y,hy,hfy⟩:=hget1 i es[i] (zE hi')
        rw[hi]at hy
        obtain rfl:e=y:=by simpa using hy
        obtain ⟨hl2,_⟩:=ON _ hfy
        have hj':j<(es[i]).length:=by rw[hl2];exact (zS hj).1
        obtain ⟨u,hu,hcu⟩:=hE.rel i es[i] (zE hi') j _ (zE hj')
        have:=hE.cells _ hae (i*z+j) u hu
        rw[G4]at this
        simp only[List.getD,hu,Option.getD_some]
        exact this
       ·have hi':i<es.length:=by rw[hl1];exact (zS hi).1
        obtain ⟨y,hy,hfy⟩:=hget1 i es[i] (zE hi')
        rw[hi]at hy
        obtain rfl:e=y:=by simpa using hy
        obtain ⟨hl2,hg2⟩:=ON _ hfy
        have hj':j<(es[i]).length:=by rw[hl2];exact (zS hj).1
        obtain ⟨u,hu,hcu⟩:=hE.rel i es[i] (zE hi') j _ (zE hj')
        obtain ⟨c2,hc2,hs2⟩:=hg2 j _ (zE hj')
        rw[hj]at hc2
        obtain rfl:c=c2:=by simpa using hc2
        simp only[List.getD,hu,Option.getD_some]
        exact ih _ _ _ hs2 hcu
def DA (w:World) (R:Bool->Nat->Prop) (c:AV) (v:Value):Prop :=
 Rd w R c v \/ ∃ (cs:List AV) (vs:List Value),c = .agg cs/\v = .agg vs.toArray/\cs.length=vs.length /\ ∀ (j:Nat) (x:AV) (u:Value),cs[j]? = some x->vs[j]? = some u->Rd w R x u
theorem XZ (hm:BR B S w0 m) (l0:Bool) (R:Bool->Nat->Prop) (hR : ∀ l b,b<m.w.heap.size->safe B S m l b->R l b) (hL : ∀ s t g,live m s t->m.ν s t=some g->R l0 g)
  {c c':AV} {v:Value} (h:DI m.own l0 c=some c') (hc:CV B S m c v):DA m.w R c' v:=by
 cases hc with
 | any v=>simp [DI,snap]at h
 | tup=>simp [DI,snap]at h
 | ca hc=>cases hc with
  | one hc =>
   have h':snap m.own l0 6 c=some c':=by
    cases hc with
    | rd hr=>cases hr<;>simpa [DI] using h
    | _=>simpa [DI] using h
   exact Or.inl (qX hm l0 R hR hL 6 c c' v h' hc)
  | fn=>simp [DI,snap]at h
  | agg cs vs hcl =>
   simp only[DI]at h
   cases hcs:cs.mapM (snap m.own l0 6) with
   | none=>simp [hcs]at h
   | some cs' =>
    simp [hcs]at h
    subst h
    obtain ⟨h1,h2⟩:=ON _ hcs
    refine Or.inr ⟨cs',vs,rfl,rfl,h1.symm.trans hcl.1,fun j x u hx hu => ?_⟩
    have hj:j<cs.length:=by rw[h1];exact (zS hx).1
    obtain ⟨y,hy,hfy⟩:=h2 j cs[j] (zE hj)
    rw[hx]at hy
    obtain rfl:x=y:=by simpa using hy
    exact qX hm l0 R hR hL 6 _ _ _ hfy (hcl.2 j cs[j] u (zE hj) hu)
def DV (w:World) (R:Bool->Nat->Prop) (c:AV) (v:Value):Prop :=
 DA w R c v \/ ∃ (cs:List AV) (vs:List Value),c = .tup cs/\v = .tuple vs.toArray/\cs.length=vs.length /\ ∀ (j:Nat) (x:AV) (u:Value),cs[j]? = some x->vs[j]? = some u->DA w R x u
theorem Agz (hm:BR B S w0 m) (l0:Bool) (R:Bool->Nat->Prop) (hR : ∀ l b,b<m.w.heap.size->safe B S m l b->R l b) (hL : ∀ s t g,live m s t->m.ν s t=some g->R l0 g)
  {c c':AV} {v:Value} (h:PQ m.own l0 c=some c') (hc:CV B S m c v):DV m.w R c' v:=by
 by_cases ht : ∃ cs,c = .tup cs
 ·obtain ⟨cs,rfl⟩:=ht
  obtain ⟨vs,rfl,hl,hcc⟩:=ZA hc
  simp only[PQ]at h
  cases hcs:cs.mapM (DI m.own l0) with
  | none=>simp [hcs]at h
  | some cs' =>
   simp [hcs]at h
   subst h
   obtain ⟨h1,h2⟩:=ON _ hcs
   refine Or.inr ⟨cs',vs,rfl,rfl,h1.symm.trans hl,fun j x u hx hu => ?_⟩
   have hj:j<cs.length:=by rw[h1];exact (zS hx).1
   obtain ⟨y,hy,hfy⟩:=h2 j cs[j] (zE hj)
   rw[hx]at hy
   obtain rfl:x=y:=by simpa using hy
   exact XZ hm l0 R hR hL hfy (.ca (hcc j cs[j] u (zE hj) hu))
 ·have h':DI m.own l0 c=some c':=by
   cases c<;>first|exact h|exact absurd ⟨_,rfl⟩ ht
  exact Or.inl (XZ hm l0 R hR hL h' hc)
theorem DA.ca {B:Nat} {S:Nat->Prop} {m:M} {c:AV} {v:Value} (h:DA m.w (safe B S m) c v):CA B S m c v:=by
 rcases h with h|⟨cs,vs,rfl,rfl,hl,hh⟩
 ·exact .one (.rd h)
 ·exact .agg cs vs ⟨hl,fun j x u hx hu => .rd (hh j x u hx hu)⟩
theorem DV.cv {B:Nat} {S:Nat->Prop} {m:M} {c:AV} {v:Value} (h:DV m.w (safe B S m) c v):CV B S m c v:=by
 rcases h with h|⟨cs,vs,rfl,rfl,hl,hh⟩
 ·exact .ca h.ca
 ·exact .tup cs vs hl fun j x u hx hu=>(hh j x u hx hu).ca
theorem O8 : ∀ {cs:List AV},CY cs -> ∀ (j:Nat) (c:AV),cs[j]? = some c->A9 c
 | [],_,j,c,h=>by simp at h
 | x::r,hc,j,c,h=>by
  unfold CY at hc
  cases j with
  | zero=>simp at h;subst h;exact hc.1
  | succ j=>exact O8 hc.2 j c (by simpa using h)
theorem Y5 : ∀ {cs:List (List AV)},FG cs -> ∀ (j:Nat) (c:List AV),cs[j]? = some c->CY c
 | [],_,j,c,h=>by simp at h
 | x::r,hc,j,c,h=>by
  unfold FG at hc
  cases j with
  | zero=>simp at h;subst h;exact hc.1
  | succ j=>exact Y5 hc.2 j c (by simpa using h)
theorem Rd.clean {w:World} {R R':Bool->Nat->Prop} (hR : ∀ b,b<w.heap.size->R false b->R' false b) {c:AV} {v:Value} (h:Rd w R c v) (hc:A9 c):Rd w R' c v:=by
 induction h with
 | int k n=>exact .int k n
 | bool b=>exact .bool b
 | str s=>exact .str s
 | sl0 l a cap=>exact .sl0 l a cap
 | emp b a cap h=>exact .emp b a cap h
 | sl l es b o esz cap u hne hp h1 hcap hz hcl hr ih =>
  unfold A9 at hc
  obtain ⟨rfl,hc⟩:=hc
  obtain ⟨e,c,he,hc0⟩:=WX hne hp hz
  have hb:b<w.heap.size:=RP (hcl 0 e he 0 c hc0)
  exact .sl false es b o esz cap u hne hp (hR b hb h1) hcap hz hcl fun i e he j c hj=>ih i e he j c hj (O8 (Y5 hc i e he) j c hj)
theorem DA.clean {w:World} {R R':Bool->Nat->Prop} (hR : ∀ b,b<w.heap.size->R false b->R' false b) {c:AV} {v:Value} (h:DA w R c v) (hc:A9 c):DA w R' c v:=by
 rcases h with h|⟨cs,vs,rfl,rfl,hl,hh⟩
 ·exact Or.inl (h.clean hR hc)
 ·unfold A9 at hc
  exact Or.inr ⟨cs,vs,rfl,rfl,hl,fun j x u hx hu=>(hh j x u hx hu).clean hR (O8 hc j x hx)⟩
theorem DV.clean {w:World} {R R':Bool->Nat->Prop} (hR : ∀ b,b<w.heap.size->R false b->R' false b) {c:AV} {v:Value} (h:DV w R c v) (hc:A9 c):DV w R' c v:=by
 rcases h with h|⟨cs,vs,rfl,rfl,hl,hh⟩
 ·exact Or.inl (h.clean hR hc)
 ·unfold A9 at hc
  exact Or.inr ⟨cs,vs,rfl,rfl,hl,fun j x u hx hu=>(hh j x u hx hu).clean hR (O8 hc j x hx)⟩
theorem iF {B:Nat} {S:Nat->Prop} {m:M} {c:AV} {v:Value} (h:CV B S m c v) (hc:A9 c):DV m.w (safe B S m) c v:=by
 have one : ∀ {c:AV} {v:Value},CC B S m c v->A9 c->Rd m.w (safe B S m) c v:=fun h hc=>by
  cases h with
  | rd h=>exact h
  | _=>unfold A9 at hc;exact hc.elim
 have ca : ∀ {c:AV} {v:Value},CA B S m c v->A9 c->DA m.w (safe B S m) c v:=fun h hc=>by
  cases h with
  | one h=>exact Or.inl (one h hc)
  | fn=>unfold A9 at hc;exact hc.elim
  | agg cs vs h =>
   unfold A9 at hc
   exact Or.inr ⟨cs,vs,rfl,rfl,h.1,fun j x u hx hu=>one (h.2 j x u hx hu) (O8 hc j x hx)⟩
 cases h with
 | any v=>unfold A9 at hc;exact hc.elim
 | ca h=>exact Or.inl (ca h hc)
 | tup as vs hl h =>
  unfold A9 at hc
  exact Or.inr ⟨as,vs,rfl,rfl,hl,fun j x u hx hu=>ca (h j x u hx hu) (O8 hc j x hx)⟩
theorem XU {f:Nat} {xs:Array Operand} {ts:Array TypeId} (hop:o.op = .call ⟨.value (.func f),xs,ts⟩) {w:World} (h:(callFunc f (xs.map a.eval)).run P w = .ok (.enter f (xs.map a.eval)) w):(execOp a.eval o).run P w = .ok (.enter f (xs.map a.eval)) w:=by
 simp [execOp,hop,resolve,Deferred.ofValue,Act.eval,invoke]
 exact h
theorem jB {C:Cl} (hC:HH P num C) (hm:BR B S w0 m) (hs:CS B S m ρ a.eval) {f:Nat} {xs:Array Operand} {xs':List AQ} (he:D5 xs.toList xs'=true) (hex : ∀ w:World,(callFunc (num f) (xs.map a.eval)).run P w = .ok (.enter (num f) (xs.map a.eval)) w->(execOp a.eval o).run P w = .ok (.enter (num f) (xs.map a.eval)) w) {vs:List AV} {r:AV} (hv:(xs'.map ρ).mapM (DI m.own true)=some vs) (hr:C.pure f vs=some r):CW B S w0 P o a m (.val r):=by
 obtain ⟨hl,hx⟩:=RW hs he
 obtain ⟨hl2,hg2⟩:=ON _ hv
 have hmap:(xs.map a.eval)=(xs.toList.map a.eval).toArray:=by cases xs;simp
 have hargs : ∀ (j:Nat) (c:AV) (v:Value),vs[j]? = some c->(xs.toList.map a.eval)[j]? = some v->CA m.w.heap.size (safe B S m false) ⟨fun _ _=>none,AH.emp,m.w⟩ c v:=by
  intro j c v hc hvv
  rw[List.getElem?_map]at hvv
  cases hxj:xs.toList[j]? with
  | none=>simp [hxj]at hvv
  | some x =>
   simp [hxj]at hvv
   subst hvv
   have hjl:j<xs'.length:=by rw[<-hl];exact (zS hxj).1
   obtain ⟨y,hy,hfy⟩:=hg2 j (ρ xs'[j]) (by rw[List.getElem?_map,zE hjl];rfl)
   rw[hc]at hy
   obtain rfl:c=y:=by simpa using hy
   have hcv:=hx j x xs'[j] hxj (zE hjl)
   have hda:=XZ hm true (safe m.w.heap.size (safe B S m false) ⟨fun _ _=>none,AH.emp,m.w⟩) (fun l b hb hsf=>by
    cases l with
    | false=>exact .inl ⟨hsf,hb⟩
    | true=>exact .inr (.inr ⟨rfl,hb⟩)) (fun s t g hlv hg=>by
    obtain ⟨_,arr,e,hh⟩:=hm.ge hlv hg
    exact .inr (.inr ⟨rfl,(Array.getElem?_eq_some_iff.1 hh).1⟩)) hfy hcv
   exact DA.ca (m:=⟨fun _ _=>none,AH.emp,m.w⟩) hda
 have hcall:=hC.pure f vs r hr (safe B S m false) m.w (xs.toList.map a.eval) (by rw[<-hl2];simp [hl]) hargs
 intro K Q hK
 unfold Oper.wp
 rw[hex _ (hC.enterP f vs r hr _ _),hmap]
 refine Calls.mono hcall fun e w' ⟨u,he',hbel,hcv,hcl⟩ => ?_
 subst he'
 obtain ⟨hm',hext⟩:=grow hm hbel
 refine hK u ⟨m.ν,m.own,w'⟩ rfl hm' hext ?_
 refine DV.cv (m:=⟨m.ν,m.own,w'⟩) ((iF hcv hcl).clean (fun b hb hsf => ?_) hcl)
 rcases hsf with ⟨h1,h2⟩|⟨h1,_⟩|⟨h1,_⟩
 ·exact hext.saf false b h2 h1
 ·refine .inr (.inl ⟨Nat.le_trans hm.size h1,fun s t hlv hg => ?_⟩)
  obtain ⟨b',hb'⟩:=Option.isSome_iff_exists.1 hlv
  obtain ⟨_,arr,e,hh⟩:=hm.ge ⟨b',hb'⟩ hg
  have:=(Array.getElem?_eq_some_iff.1 hh).1
  omega
 ·cases h1
theorem zN {C:Cl} (hC:HH P num C) (hm:BR B S w0 m) (hs:CS B S m ρ a.eval) {f:Nat} {xs':List AQ} (h:BA P num o.op (.call f xs')=true) {vs:List AV} {r:AV} (hv:(xs'.map ρ).mapM (DI m.own true)=some vs) (hr:C.pure f vs=some r):CW B S w0 P o a m (.val r):=by
 obtain ⟨xs,ts,hop,he⟩:=aY h
 exact jB hC hm hs he (fun w h=>XU hop h) hv hr
theorem iY {C:Cl} (hC:HH P num C) (hm:BR B S w0 m) (hs:CS B S m ρ a.eval) {f:Nat} {xs':List AQ} (h:BA P num o.op (.calli f xs')=true) {r:AV} {own':AH} (hr:C.inn f (xs'.map ρ) m.own=some (r,own')):CW B S w0 P o a m (.tur r own'):=by
 obtain ⟨xs,ts,hop,he⟩:=AcD h
 obtain ⟨hl,hx⟩:=RW hs he
 have hmap:(xs.map a.eval)=(xs.toList.map a.eval).toArray:=by cases xs;simp
 have hcall:=hC.inn f (xs'.map ρ) m.own r own' hr B S w0 m (xs.toList.map a.eval) rfl hm (by simp [hl]) (fun j c v hc hv=>by
  rw[List.getElem?_map]at hc hv
  cases hxj:xs.toList[j]? with
  | none=>simp [hxj]at hv
  | some x =>
   cases hyj:xs'[j]? with
   | none=>simp [hyj]at hc
   | some y =>
    simp [hxj]at hv
    simp [hyj]at hc
    subst hv hc
    exact hx j x y hxj hyj)
 intro K Q hK
 unfold Oper.wp
 rw[XU hop (hC.enterI f _ _ _ hr _ _),hmap]
 refine Calls.mono hcall fun e w' ⟨u,m',he',hw,hown,hm',hext,hcv⟩ => ?_
 subst he' hw
 exact hK u m' hown hm' hext hcv
theorem wN (hm:BR B S w0 m) {w':World} (hb:Below m.w.heap.size m.w w') (s:Nat) (b:DN) (gg:Option Nat) (hz : ∀ x∈b.es,x.length=b.esz)
  (hg:match gg with|none=>b.es=[]|some g=>m.w.heap.size<=g /\ ∃ arr e,w'.heap[g]? = some (.cells arr e (0,0)) /\ ∀ i cs,b.es[i]? = some cs -> ∀ j c,cs[j]? = some c -> ∃ u,arr[i*b.esz+j]? = some u/\CC B S ⟨newν m s gg,m.own.put s ((m.own s).new b),w'⟩ c u) :
  BR B S w0 ⟨newν m s gg,m.own.put s ((m.own s).new b),w'⟩/\DD B S m ⟨newν m s gg,m.own.put s ((m.own s).new b),w'⟩:=by
 have hν : ∀ s' t',live m s' t'->newν m s gg s' t'=m.ν s' t':=fun s' t' hl=>by
  unfold newν
  rw[if_neg]
  rintro ⟨rfl,rfl⟩
  exact XB hm _ hl
 have hge : ∀ g,gg=some g->m.w.heap.size<=g:=fun g e=>by subst e;exact hg.1
 have he:DD B S m ⟨newν m s gg,m.own.put s ((m.own s).new b),w'⟩:=by
  refine QL hm hb.size (fun k hk _=>hb.block k hk) (fun s' => ?_) (fun s' t' b' ht hb' => ?_) (fun s' t' g hl hg' hlt => ?_)
  ·rw[M4];split
   ·rename_i h;subst h;omega
   ·exact Nat.le_refl _
  ·rw[FU]at hb'
   rw[if_neg (by rintro ⟨rfl,rfl⟩;omega)]at hb'
   refine ⟨b',hb',rfl,hν s' t' ⟨b',hb'⟩,fun g ar e' hg' ha=>⟨ar,?_,rfl⟩⟩
   exact (hb.block g (Array.getElem?_eq_some_iff.1 ha).1).trans ha
  ·obtain ⟨b',hb'⟩:=hl
   rw[FU]at hb'
   by_cases h:s'=s/\t'=m.own.cnt s
   ·simp only[newν,if_pos h]at hg'
    have:=hge g hg'
    omega
   ·rw[if_neg h]at hb'
    exact ⟨s',t',⟨b',hb'⟩,by rw[<-hν s' t' ⟨b',hb'⟩];exact hg'⟩
 refine ⟨⟨hm.below.trans (hb.mono hm.size),Nat.le_trans hm.size hb.size,fun s' t' ht => ?_,fun s' t' b' hb' => ?_,fun s1 t1 s2 t2 b1 b2 g h1 h2 g1 g2 => ?_⟩,he⟩
 ·rw[M4]at ht
  rw[FU,if_neg]
  ·refine hm.fresh s' t' ?_
   split at ht
   ·rename_i h;subst h;omega
   ·exact ht
  ·rintro ⟨rfl,rfl⟩
   simp at ht
   omega
 ·rw[FU]at hb'
  by_cases h:s'=s/\t'=m.own.cnt s
  ·rw[if_pos h]at hb'
   obtain rfl:b=b':=by simpa using hb'
   refine ⟨hz,?_⟩
   show match newν m s gg s' t' with|none=>_|some g=>_
   rw[show newν m s gg s' t'=gg by simp [newν,h]]
   cases gg with
   | none=>exact hg
   | some g=>exact ⟨Nat.le_trans hm.size hg.1,hg.2⟩
  ·rw[if_neg h]at hb'
   obtain ⟨h1,h2⟩:=hm.blk s' t' b' hb'
   refine ⟨h1,?_⟩
   show match newν m s gg s' t' with|none=>_|some g=>_
   rw[hν s' t' ⟨b',hb'⟩]
   cases hv:m.ν s' t' with
   | none=>rw[hv]at h2;exact h2
   | some g =>
    rw[hv]at h2
    obtain ⟨h3,ar,e',h4,h5⟩:=h2
    refine ⟨h3,ar,e',(hb.block g (Array.getElem?_eq_some_iff.1 h4).1).trans h4,fun i cs hi j c hj => ?_⟩
    obtain ⟨u,hu,hcc⟩:=h5 i cs hi j c hj
    exact ⟨u,hu,he.cc hcc⟩
 ·rw[FU]at h1 h2
  have lt : ∀ s' t' b',m.own.get s' t'=some b'->newν m s gg s' t'=some g->g<m.w.heap.size:=fun s' t' b' hb' hg'=>by
   rw[hν s' t' ⟨b',hb'⟩]at hg'
   obtain ⟨_,ar,e',h4⟩:=hm.ge ⟨b',hb'⟩ hg'
   exact (Array.getElem?_eq_some_iff.1 h4).1
  have at_ : ∀ s' t',s'=s/\t'=m.own.cnt s->newν m s gg s' t'=some g->m.w.heap.size<=g:=fun s' t' h hg'=>by
   simp only[newν,if_pos h]at hg'
   exact hge g hg'
  by_cases p1:s1=s/\t1=m.own.cnt s<;>by_cases p2:s2=s/\t2=m.own.cnt s
  ·exact ⟨p1.1.trans p2.1.symm,p1.2.trans p2.2.symm⟩
  ·rw[if_neg p2]at h2
   have:=lt s2 t2 b2 h2 g2
   have:=at_ s1 t1 p1 g1
   omega
  ·rw[if_neg p1]at h1
   have:=lt s1 t1 b1 h1 g1
   have:=at_ s2 t2 p2 g2
   omega
  ·rw[if_neg p1]at h1
   rw[if_neg p2]at h2
   exact hm.inj s1 t1 s2 t2 b1 b2 g h1 h2 (by rw[<-hν s1 t1 ⟨b1,h1⟩];exact g1) (by rw[<-hν s2 t2 ⟨b2,h2⟩];exact g2)
theorem zQ {C:Cl} (hC:HH P num C) (hm:BR B S w0 m) (hs:CS B S m ρ a.eval) {s f:Nat} {xs':List AQ} (h:BA P num o.op (.callr s f xs')=true) {vs:List AV} (hv:(xs'.map ρ).mapM (N3 m.own true)=some vs) {z:Nat} {es:List (List AV)} (hr:NQ (C.inn f vs AH.emp)=some (z,es)) :
  CW B S w0 P o a m (.new s ⟨z,es⟩ (fun t => .row s t z 0 es.length)):=by
 obtain ⟨xs,ts,hop,he⟩:=aY (AcF h)
 obtain ⟨s0,t0,o',b0,hin,hget,rfl,hcl⟩:=wM hr
 obtain ⟨hl,hx⟩:=RW hs he
 obtain ⟨hl2,hg2⟩:=ON _ hv
 have hmap:(xs.map a.eval)=(xs.toList.map a.eval).toArray:=by cases xs;simp
 have hargs : ∀ (j:Nat) (c:AV) (v:Value),vs[j]? = some c->(xs.toList.map a.eval)[j]? = some v->CV m.w.heap.size (safe B S m false) ⟨fun _ _=>none,AH.emp,m.w⟩ c v:=by
  intro j c v hc hvv
  rw[List.getElem?_map]at hvv
  cases hxj:xs.toList[j]? with
  | none=>simp [hxj]at hvv
  | some x =>
   simp [hxj]at hvv
   subst hvv
   have hjl:j<xs'.length:=by rw[<-hl];exact (zS hxj).1
   obtain ⟨y,hy,hfy⟩:=hg2 j (ρ xs'[j]) (by rw[List.getElem?_map,zE hjl];rfl)
   rw[hc]at hy
   obtain rfl:c=y:=by simpa using hy
   have hcv:=hx j x xs'[j] hxj (zE hjl)
   have hN:(ρ xs'[j] = .nil/\c = .nil)\/DI m.own true (ρ xs'[j])=some c:=by
    cases e:ρ xs'[j] with
    | nil=>rw[e]at hfy;exact .inl ⟨rfl,(Option.some.inj hfy).symm⟩
    | _=>rw[e]at hfy;exact .inr hfy
   rcases hN with ⟨e1,rfl⟩|hfy
   ·rw[e1]at hcv
    rw[OH hcv]
    exact .ca (.one .nil)
   have hda:=XZ hm true (safe m.w.heap.size (safe B S m false) ⟨fun _ _=>none,AH.emp,m.w⟩) (fun l b hb hsf=>by
    cases l with
    | false=>exact .inl ⟨hsf,hb⟩
    | true=>exact .inr (.inr ⟨rfl,hb⟩)) (fun s t g hlv hg=>by
    obtain ⟨_,arr,e,hh⟩:=hm.ge hlv hg
    exact .inr (.inr ⟨rfl,(Array.getElem?_eq_some_iff.1 hh).1⟩)) hfy hcv
   exact .ca (DA.ca (m:=⟨fun _ _=>none,AH.emp,m.w⟩) hda)
 have hm0:BR m.w.heap.size (safe B S m false) m.w ⟨fun _ _=>none,AH.emp,m.w⟩:=⟨Below.refl _ _,Nat.le_refl _,fun _ _ _=>rfl,(fun s t b h=>by cases h),(fun _ _ _ _ _ _ _ h=>by cases h)⟩
 have hcall:=hC.inn f vs AH.emp _ o' hin m.w.heap.size (safe B S m false) m.w ⟨fun _ _=>none,AH.emp,m.w⟩ (xs.toList.map a.eval) rfl hm0 (by rw[<-hl2];simp [hl]) hargs
 intro K Q hK
 unfold Oper.wp
 rw[XU hop (hC.enterI f _ _ _ hin _ _),hmap]
 refine Calls.mono hcall fun e w' ⟨u,m',he',hw,hown,hm',hext',hcv⟩ => ?_
 subst he' hw
 have hbel:Below m.w.heap.size m.w m'.w:=hm'.below
 rw[<-hown]at hget
 obtain ⟨hz,hblk⟩:=hm'.blk s0 t0 b0 hget
 obtain ⟨ad,cap,rfl,ht,hz0,hlc,ha,hb⟩:=QD hcv
 obtain ⟨hzz,hor⟩:=hb b0 hget
 subst hzz
 have hold : ∀ s t g,live m s t->m.ν s t=some g->g<m.w.heap.size:=fun s t g hlv hg=>by
  obtain ⟨_,arr,e,hh⟩:=hm.ge hlv hg
  exact (Array.getElem?_eq_some_iff.1 hh).1
 have hlive1 : ∀ s' t' g,live ⟨newν m s (m'.ν s0 t0),m.own.put s ((m.own s).new ⟨b0.esz,b0.es⟩),m'.w⟩ s' t'->newν m s (m'.ν s0 t0) s' t'=some g->g<m.w.heap.size\/m'.ν s0 t0=some g:=fun s' t' g hlv hg=>by
  obtain ⟨b',hb'⟩:=hlv
  rw[FU]at hb'
  by_cases hst:s'=s/\t'=m.own.cnt s
  ·simp only[newν,if_pos hst]at hg
   exact Or.inr hg
  ·rw[if_neg hst]at hb'
   simp only[newν,if_neg hst]at hg
   exact Or.inl (hold s' t' g ⟨b',hb'⟩ hg)
 have hR : ∀ b,b<m'.w.heap.size->safe m.w.heap.size (safe B S m false) m' false b->safe B S ⟨newν m s (m'.ν s0 t0),m.own.put s ((m.own s).new ⟨b0.esz,b0.es⟩),m'.w⟩ false b:=fun b hbs hsf=>by
  rcases hsf with ⟨h1,h2⟩|⟨h1,h2⟩|⟨h1,_⟩
  ·rcases h1 with h1|⟨h1,h3⟩|⟨h1,_⟩
   ·exact .inl h1
   ·refine .inr (.inl ⟨h1,fun s' t' hlv hg => ?_⟩)
    obtain ⟨b',hb'⟩:=Option.isSome_iff_exists.1 hlv
    have hb2:=hb'
    rw[FU]at hb2
    by_cases hst:s'=s/\t'=m.own.cnt s
    ·simp only[newν,if_pos hst]at hg
     rw[hg]at hblk
     have:=hblk.1
     omega
    ·rw[if_neg hst]at hb2
     simp only[newν,if_neg hst]at hg
     exact h3 s' t' (by rw[hb2];rfl) hg
   ·cases h1
  ·refine .inr (.inl ⟨Nat.le_trans hm.size h1,fun s' t' hlv hg => ?_⟩)
   rcases hlive1 s' t' b (Option.isSome_iff_exists.1 hlv) hg with h3|h3
   ·omega
   ·exact h2 s0 t0 (by rw[hget];rfl) h3
  ·cases h1
 obtain ⟨hmem,hext⟩:=wN hm hbel s ⟨b0.esz,b0.es⟩ (m'.ν s0 t0) hz (by
  cases hν:m'.ν s0 t0 with
  | none=>rw[hν]at hblk;exact hblk
  | some g =>
   rw[hν]at hblk hR
   obtain ⟨h1,arr,e,h2,h3⟩:=hblk
   refine ⟨h1,arr,e,h2,fun i cs hi j c hj => ?_⟩
   obtain ⟨u,hu,hcc⟩:=h3 i cs hi j c hj
   refine ⟨u,hu,.rd ?_⟩
   have hcl2:=O8 (Y5 hcl i cs hi) j c hj
   have hrd:Rd m'.w (safe m.w.heap.size (safe B S m false) m') c u:=by
    cases hcc with
    | rd h=>exact h
    | _=>unfold A9 at hcl2;exact hcl2.elim
   exact hrd.clean hR hcl2)
 refine hK _ ⟨newν m s (m'.ν s0 t0),m.own.put s ((m.own s).new ⟨b0.esz,b0.es⟩),m'.w⟩ rfl hmem hext (.ca (.one (.row s (m.own.cnt s) b0.esz 0 b0.es.length ad cap (by show m.own.cnt s<AH.cnt (m.own.put s _) s;rw[M4,if_pos rfl];omega) hz0 hlc ha fun b1 hb1 => ?_)))
 have hb1':(m.own.put s ((m.own s).new ⟨b0.esz,b0.es⟩)).get s (m.own.cnt s)=some b1:=hb1
 rw[FU,if_pos ⟨rfl,rfl⟩]at hb1'
 obtain rfl:=Option.some.inj hb1'
 refine ⟨rfl,?_⟩
 rcases hor with h0|⟨g,arr,e,hg,hae,hh,hle⟩
 ·exact .inl h0
 ·exact .inr ⟨g,arr,e,by simp [newν,hg],hae,hh,hle⟩
theorem iH {p:Bool} {f g:Nat} {cs:List AV} {v:Value} (h:CV B S m (.fn p f g cs) v) : ∃ vs:List Value,v = .func (.func g) #[] vs.toArray/\CL B S m cs vs:=by
 cases h with
 | ca h=>cases h with
  | one h=>cases h with
   | rd h=>cases h
  | fn p f g cs vs h=>exact ⟨vs,rfl,h⟩
theorem pZ {f:Nat} {x:Operand} {xs:Array Operand} {ts:Array TypeId} {vs:Array Value} (hop:o.op = .call ⟨.value x,xs,ts⟩) (hx:a.eval x = .func (.func f) #[] vs) {w:World} (h:(callFunc f (xs.map a.eval++vs)).run P w = .ok (.enter f (xs.map a.eval++vs)) w):(execOp a.eval o).run P w = .ok (.enter f (xs.map a.eval++vs)) w:=by
 simp [execOp,hop,resolve,Deferred.ofValue,hx,invoke]
 exact h
theorem zR {C:Cl} (hC:HH P num C) (hm:BR B S w0 m) (hs:CS B S m ρ a.eval) {x':AQ} {xs':List AQ} (h:BA P num o.op (.callv x' xs')=true) {f:Nat} {cs:List AV} (hf:ρ x' = .fn false f (num f) cs) {r:AV} {own':AH} (hr:C.inn f (xs'.map ρ++cs) m.own=some (r,own')):CW B S w0 P o a m (.tur r own'):=by
 obtain ⟨x,xs,ts,hop,hx0,he⟩:=mS h
 obtain ⟨hl,hx⟩:=RW hs he
 obtain ⟨vs,hv,hcl⟩:=iH (hf ▸ hs x x' hx0)
 have hmap:(xs.map a.eval++vs.toArray)=(xs.toList.map a.eval++vs).toArray:=by cases xs;simp
 have hcall:=hC.inn f (xs'.map ρ++cs) m.own r own' hr B S w0 m (xs.toList.map a.eval++vs) rfl hm (by simp [hl,hcl.1]) (fun j c v hc hv=>by
  by_cases hj:j<xs'.length
  ·rw[List.getElem?_append_left (by simpa using hj),List.getElem?_map]at hc
   rw[List.getElem?_append_left (by simpa [hl] using hj),List.getElem?_map]at hv
   have hj2:j<xs.toList.length:=by rw[hl];exact hj
   rw[zE hj]at hc
   rw[zE hj2]at hv
   simp only[Option.map_some,Option.some.injEq]at hc hv
   subst hc hv
   exact hx j _ _ (zE hj2) (zE hj)
  ·rw[List.getElem?_append_right (by simpa using hj),List.length_map]at hc
   rw[List.getElem?_append_right (by simpa [hl] using hj),List.length_map,hl]at hv
   exact .ca (.one (hcl.2 _ c v hc hv)))
 intro K Q hK
 unfold Oper.wp
 rw[pZ hop hv (hC.enterI f _ _ _ hr _ _),hmap]
 refine Calls.mono hcall fun e w' ⟨u,m',he',hw,hown,hm',hext,hcv⟩ => ?_
 subst he' hw
 exact hK u m' hown hm' hext hcv
theorem zO {C:Cl} (hC:HH P num C) (hm:BR B S w0 m) (hs:CS B S m ρ a.eval) {x':AQ} {xs':List AQ} (h:BA P num o.op (.callv x' xs')=true) {f:Nat} (hf:ρ x' = .fn true f (num f) []) {vs:List AV} {r:AV} (hv:(xs'.map ρ).mapM (DI m.own true)=some vs) (hr:C.pure f vs=some r):CW B S w0 P o a m (.val r):=by
 obtain ⟨x,xs,ts,hop,hx0,he⟩:=mS h
 obtain ⟨us,hu,hcl⟩:=iH (hf ▸ hs x x' hx0)
 have hu0:us=[]:=List.eq_nil_of_length_eq_zero (by rw[<-hcl.1];rfl)
 subst hu0
 refine jB hC hm hs he (fun w h => ?_) hv hr
 have:=pZ (P:=P) (w:=w) hop hu (by simpa using h)
 simpa using this
theorem Rd.to1 {w:World} {R R':Bool->Nat->Prop} (hR : ∀ l b,b<w.heap.size->R l b -> ∀ l',R' l' b) {c:AV} {v:Value} (h:Rd w R c v) (hq:GS c=true):Rd w R' (SX c) v:=by
 cases h with
 | int k n=>exact .int k n
 | bool b=>exact .bool b
 | str s=>simp [GS]at hq
 | emp=>simp [GS]at hq
 | sl0 l a cap=>exact .sl0 false a cap
 | sl l es b o esz cap u hne hp h1 hcap hz hcl hr =>
  obtain ⟨e,c,he,hc0⟩:=WX hne hp hz
  have hb:b<w.heap.size:=RP (hcl 0 e he 0 c hc0)
  exact .sl false es b o esz cap u hne hp (hR l b hb h1 false) hcap hz hcl fun i e he j c hj=>(hr i e he j c hj).mono (fun l b hb h=>hR l b hb h l) (fun _ _ _ _=>rfl)
theorem Rd.back1 {w:World} {R R':Bool->Nat->Prop} (hR : ∀ b,b<w.heap.size->R false b->R' true b) {c:AV} {v:Value} (h:Rd w R c v) (hc:A9 c) (hf:S4 c):Rd w R' (UI c) v:=by
 cases h with
 | int k n=>exact .int k n
 | bool b=>exact .bool b
 | str s=>exact hf.elim
 | emp=>exact hf.elim
 | sl0 l a cap=>exact .sl0 true a cap
 | sl l es b o esz cap u hne hp h1 hcap hz hcl hr =>
  unfold A9 at hc
  obtain ⟨rfl,hc⟩:=hc
  obtain ⟨e,c,he,hc0⟩:=WX hne hp hz
  have hb:b<w.heap.size:=RP (hcl 0 e he 0 c hc0)
  refine .sl true es b o esz cap u hne hp (hR b hb h1) hcap hz hcl fun i e he j c hj => ?_
  have hnum:=hf e (zM he) c (zM hj)
  have hrr:=hr i e he j c hj
  generalize u i j=vv at hrr ⊢
  cases hrr<;>first|exact .int _ _|exact .bool _|(simp [oK]at hnum)
theorem zP {C:Cl} (hC:HH P num C) (hm:BR B S w0 m) (hs:CS B S m ρ a.eval) {f:Nat} {xs':List AQ} (h:BA P num o.op (.callq f xs')=true) (hq:(xs'.map ρ).all dq=true) {r:AV} (hr:C.pure f ((xs'.map ρ).map unl)=some r) (hfl:S5 r):CW B S w0 P o a m (.val (lnd r)):=by
 obtain ⟨xs,ts,hop,he⟩:=aY (AcE h)
 obtain ⟨hl,hx⟩:=RW hs he
 have hmap:(xs.map a.eval)=(xs.toList.map a.eval).toArray:=by cases xs;simp
 have hR : ∀ l b,b<m.w.heap.size->safe B S m l b -> ∀ l',safe m.w.heap.size (safe B S m true) ⟨fun _ _=>none,AH.emp,m.w⟩ l' b:=fun l b hb h l' => .inl ⟨cY h,hb⟩
 have hcell : ∀ (c:AV) (v:Value),CC B S m c v->GS c=true->Rd m.w (safe m.w.heap.size (safe B S m true) ⟨fun _ _=>none,AH.emp,m.w⟩) (SX c) v:=fun c v hc hd=>by
  cases hc with
  | rd hr=>exact hr.to1 hR hd
  | nil=>exact .sl0 false none 0
  | row=>simp [GS]at hd
  | ptr=>simp [GS]at hd
  | dptr=>simp [GS]at hd
 have hargs : ∀ (j:Nat) (c:AV) (v:Value),((xs'.map ρ).map unl)[j]? = some c->(xs.toList.map a.eval)[j]? = some v->CA m.w.heap.size (safe B S m true) ⟨fun _ _=>none,AH.emp,m.w⟩ c v:=by
  intro j c v hc hvv
  rw[List.getElem?_map,List.getElem?_map]at hc
  rw[List.getElem?_map]at hvv
  cases hxj:xs.toList[j]? with
  | none=>simp [hxj]at hvv
  | some x =>
   cases hyj:xs'[j]? with
   | none=>simp [hyj]at hc
   | some y =>
    simp [hxj]at hvv
    simp [hyj]at hc
    subst hvv hc
    have hcv:=hx j x y hxj hyj
    have hd:dq (ρ y)=true:=List.all_eq_true.1 hq _ (List.mem_map_of_mem (zM hyj))
    generalize ρ y=cy at hcv hd ⊢
    generalize a.eval x=vx at hcv ⊢
    cases hcv with
    | any=>simp [dq,GS]at hd
    | tup=>simp [dq,GS]at hd
    | ca hca =>
     cases hca with
     | one hc1 =>
      have hd1:GS cy=true/\unl cy=SX cy:=by
       cases hc1 with
       | rd hr=>cases hr<;>exact ⟨hd,rfl⟩
       | _=>exact ⟨hd,rfl⟩
      rw[hd1.2]
      exact .one (.rd (hcell _ _ hc1 hd1.1))
     | agg cs vs hcl =>
      refine .agg (cs.map SX) vs ⟨by simpa using hcl.1,fun k c' v' hc' hv' => ?_⟩
      rw[List.getElem?_map]at hc'
      cases hck:cs[k]? with
      | none=>simp [hck]at hc'
      | some c0 =>
       simp [hck]at hc'
       subst hc'
       exact .rd (hcell c0 v' (hcl.2 k c0 v' hck hv') (List.all_eq_true.1 hd _ (zM hck)))
     | fn=>simp [dq,GS]at hd
 have hcall:=hC.pure f _ r hr (safe B S m true) m.w (xs.toList.map a.eval) (by simp [hl]) hargs
 intro K Q hK
 unfold Oper.wp
 rw[XU hop (hC.enterP f _ r hr _ _),hmap]
 refine Calls.mono hcall fun e w' ⟨u,he',hbel,hcv,hcl⟩ => ?_
 subst he'
 obtain ⟨hm',hext⟩:=grow hm hbel
 refine hK u ⟨m.ν,m.own,w'⟩ rfl hm' hext ?_
 have hback : ∀ b,b<w'.heap.size->safe m.w.heap.size (safe B S m true) ⟨fun _ _=>none,AH.emp,w'⟩ false b->safe B S ⟨m.ν,m.own,w'⟩ true b:=fun b hb hsf=>by
  rcases hsf with ⟨h1,h2⟩|⟨h1,_⟩|⟨h1,_⟩
  ·exact hext.saf true b h2 h1
  ·refine .inr (.inl ⟨Nat.le_trans hm.size h1,fun s t hlv hg => ?_⟩)
   obtain ⟨b',hb'⟩:=Option.isSome_iff_exists.1 hlv
   obtain ⟨_,arr,e,hh⟩:=hm.ge ⟨b',hb'⟩ hg
   have:=(Array.getElem?_eq_some_iff.1 hh).1
   omega
  ·cases h1
 rcases iF hcv hcl with hda|⟨cs,vs,rfl,_⟩
 ·rcases hda with hrd|⟨cs,vs,rfl,rfl,hl2,hh⟩
  ·have e1:lnd r=UI r/\S4 r:=by cases hrd<;>exact ⟨rfl,hfl⟩
   rw[show CP.valOf (.val (lnd r)) m.own=lnd r from rfl,e1.1]
   exact .ca (.one (.rd (hrd.back1 hback hcl e1.2)))
  ·unfold A9 at hcl
   refine .ca (.agg (cs.map UI) vs ⟨by simpa using hl2,fun k c' v' hc' hv' => ?_⟩)
   rw[List.getElem?_map]at hc'
   cases hck:cs[k]? with
   | none=>simp [hck]at hc'
   | some c0 =>
    simp [hck]at hc'
    subst hc'
    exact .rd ((hh k c0 v' hck hv').back1 hback (O8 hcl k c0 hck) (hfl c0 (zM hck)))
 ·exact hfl.elim
end
end Go.Eng

namespace Go.Eng
open Go.RowKit
section
variable {B:Nat} {S:Nat->Prop} {w0:World} {m:M}
variable {P:Program} {num:Nat->Nat} {o:Oper} {a:Act} {ρ:AQ->AV} {C:Cl} {ban:List Nat}
theorem Aal (hm:BR B S w0 m) (hs:CS B S m ρ a.eval) {mx:Bool} {xs':List AQ} (h:BA P num o.op (.mm mx xs')=true) {v r:AV} {l:List AV} (hx:xs'.map ρ=v::l) (hv:MR mx v l=some r):CW B S w0 P o a m (.val r):=by
 by_cases hi : ∃ k n,v = .int k n
 ·exact Aak hm hs h hx hv hi
 ·cases l with
  | cons u q =>
   simp only[MR]at hv
   exfalso
   cases v<;>first|(exact hi ⟨_,_,rfl⟩)|(simp [OP]at hv)
  | nil =>
   simp only[MR,Option.some.injEq]at hv
   subst hv
   obtain ⟨xs,ts,hop,he⟩:=mV h
   cases xs' with
   | nil=>simp at hx
   | cons y yr =>
    simp only[List.map_cons,List.cons.injEq,List.map_eq_nil_iff]at hx
    obtain ⟨rfl,rfl⟩:=hx
    obtain ⟨xl⟩:=xs
    cases xl with
    | nil=>simp [D5]at he
    | cons x xr =>
     simp only[D5,Bool.and_eq_true]at he
     cases xr with
     | cons=>simp [D5]at he
     | nil =>
      refine DY hm (u:=a.eval x) ?_ (hs x y he.1)
      cases mx<;>simp [execOp,hop,resolve,invoke,builtin,Builtin.min_,Builtin.max_]
theorem mB (o:AH) (l:List Nat) (s t:Nat) (b:DN) (h:(o.hide l).get s t=some b):o.get s t=some b:=by
 induction l with
 | nil=>exact h
 | cons x r ih =>
  unfold AH.get AH.hide at h
  by_cases hs:s=x
  ·simp [hs]at h
  ·simp only[if_neg hs]at h
   exact ih h
theorem Ac3 {o:AH} {l:List Nat} {s t i j n:Nat} {cs:List AV} (h:(o.hide l).ldp s t i j n=some cs):o.ldp s t i j n=some cs:=by
 unfold AH.ldp at *
 cases hg:(o.hide l).get s t with
 | none=>simp [hg]at h
 | some b =>
  rw[mB o l s t b hg]
  simpa [hg] using h
theorem AaH {o:AH} {l:List Nat} {v:AV} {es:List (List AV)} (h:D9 (o.hide l) v=some es):D9 o v=some es:=by
 cases v with
 | con v=>cases v<;>exact h
 | row s t z off len =>
  simp only[D9]at h ⊢
  cases hg:(o.hide l).get s t with
  | none=>simp [hg]at h
  | some b =>
   rw[mB o l s t b hg]
   simpa [hg] using h
 | _=>exact h
theorem SD {α β:Type} {f g:α->Option β} (hfg : ∀ x y,f x=some y->g x=some y) : ∀ {l:List α} {l':List β},l.mapM f=some l'->l.mapM g=some l'
 | [],l',h=>by simpa using h
 | x::r,l',h=>by
  simp only[List.mapM_cons,Option.bind_eq_bind,Option.pure_def]at h ⊢
  cases hx:f x with
  | none=>simp [hx]at h
  | some y =>
   cases hr:r.mapM f with
   | none=>simp [hx,hr]at h
   | some r' =>
    simp [hx,hr]at h
    simp [hfg x y hx,SD hfg hr,h]
theorem dJ (o:AH) (l:List Nat) (b:Bool) : ∀ (d:Nat) (c c':AV),snap (o.hide l) b d c=some c'->snap o b d c=some c'
 | 0,c,c',h=>by cases c<;>simp_all [snap]
 | d+1,c,c',h=>by
  cases c<;>first|(simp_all [snap];done)|skip
  rename_i s t z off len
  simp only[snap]at h ⊢
  cases he:D9 (o.hide l) (.row s t z off len) with
  | none=>simp [he]at h
  | some es =>
   simp only[he]at h
   rw[AaH he]
   simp only[Option.map_eq_some_iff]at h ⊢
   obtain ⟨es',h1,h2⟩:=h
   exact ⟨es',SD (fun x y hx=>SD (dJ o l b d) hx) h1,h2⟩
theorem qW (o:AH) (l:List Nat) (b:Bool) (c c':AV) (h:DI (o.hide l) b c=some c'):DI o b c=some c':=by
 cases c<;>first|exact dJ o l b 6 _ _ h|skip
 simp only[DI,Option.map_eq_some_iff]at h ⊢
 obtain ⟨cs,h1,h2⟩:=h
 exact ⟨cs,SD (dJ o l b 6) h1,h2⟩
theorem Agy (o:AH) (l:List Nat) (b:Bool) (c c':AV) (h:N3 (o.hide l) b c=some c'):N3 o b c=some c':=by
 rcases Classical.em (c = .nil) with rfl|hc
 ·exact h
 ·have e : ∀ o:AH,N3 o b c=DI o b c:=fun o=>by cases c<;>first|rfl|exact (hc rfl).elim
  rw[e]at h ⊢
  exact qW o l b _ _ h
theorem Adc {o:AH} {l:List Nat} {b:Bool} {xs vs:List AV} (h:xs.mapM (N3 (o.hide l) b)=some vs):xs.mapM (N3 o b)=some vs:=SD (Agy o l b) h
theorem Ada {o:AH} {l:List Nat} {b:Bool} {xs vs:List AV} (h:xs.mapM (DI (o.hide l) b)=some vs):xs.mapM (DI o b)=some vs:=SD (qW o l b) h
theorem AgI {own own':AH} {s t i j:Nat} {vs:List AV} (h:own.stp s t i j vs=some own'):own.put s (own' s)=own':=by
 unfold AH.stp at h
 cases hg:own.get s t with
 | none=>simp [hg]at h
 | some b =>
  simp only[hg]at h
  cases he:b.es[i]? with
  | none=>simp [he]at h
  | some cs =>
   simp only[he]at h
   split at h
   ·obtain rfl:=Option.some.inj h
    rw[AH.put_same]
   ·cases h
theorem AaG (hC:HH P num C) (hm:BR B S w0 m) (hs:CS B S m ρ a.eval) {op':D7} (hok:BA P num o.op op'=true) {E:CP} (h:eff C ban ρ m.own op'=some E):CW B S w0 P o a m E:=by
 cases op' with
 | mov x=>simp only[eff,Option.some.injEq]at h;subst h;exact Aam hm hs hok
 | vrow s z=>simp only[eff,Option.some.injEq]at h;subst h;exact Aat hm hok
 | pick c x y =>
  simp only[eff]at h
  split at h
  ·rename_i hc;simp only[Option.some.injEq]at h;subst h;exact jA hm hs hok hc
  ·rename_i hc;simp only[Option.some.injEq]at h;subst h;exact jA hm hs hok hc
  ·cases h
 | bin f x y =>
  simp only[eff]at h
  split at h
  ·rename_i k n k' n' hx hy
   simp only[Option.map_eq_some_iff]at h
   obtain ⟨v,hv,rfl⟩:=h
   exact zI hm hs hok hx hy hv
  ·cases h
 | aeq ne n x y =>
  simp only[eff]at h
  split at h
  ·rename_i cs ds hx hy
   split at h
   ·rename_i a b ha hb
    split at h
    ·rename_i hn
     simp only[Option.some.injEq]at h;subst h
     exact zB hm hs hok hx hy ha hb hn
    ·cases h
   ·cases h
  ·cases h
 | beq ne x y =>
  simp only[eff]at h
  split at h
  ·rename_i b b' hx hy
   simp only[Option.some.injEq]at h;subst h
   exact zH hm hs hok hx hy
  ·cases h
 | un f x =>
  simp only[eff,Option.map_eq_some_iff]at h
  obtain ⟨v,hv,rfl⟩:=h
  exact Aas hm hs hok hv
 | conv k x =>
  simp only[eff]at h
  split at h
  ·rename_i k' n hx
   simp only[Option.some.injEq]at h;subst h
   exact zU hm hs hok hx
  ·cases h
 | box s x =>
  simp only[eff]at h
  split at h
  ·rename_i cs hcs
   simp only[Option.some.injEq]at h;subst h
   exact zJ hm hs hok hcs
  ·cases h
 | alloc s z=>simp only[eff,Option.some.injEq]at h;subst h;exact zC hm hok
 | build z ps =>
  simp only[eff,Option.map_eq_some_iff]at h
  obtain ⟨cs,hcs,rfl⟩:=h
  exact zL hm hs hok hcs
 | bslice s esz ps =>
  simp only[eff]at h
  split at h
  ·rename_i es hes
   split at h
   ·rename_i hz
    simp only[Option.some.injEq]at h;subst h
    exact zK hm hs hok hes hz
   ·cases h
  ·cases h
 | fadr x off =>
  simp only[eff]at h
  split at h
  ·rename_i s t i j hx
   simp only[Option.some.injEq]at h;subst h
   exact zY hm hs hok hx
  ·rename_i cs hx
   simp only[Option.some.injEq]at h;subst h
   exact zX hm hs hok hx
  ·cases h
 | fld x off n agg =>
  simp only[eff]at h
  split at h
  ·rename_i cs hx
   split at h
   ·rename_i ds hp
    simp only[Option.map_eq_some_iff]at h
    obtain ⟨v,hv,rfl⟩:=h
    exact zZ hm hs hok hx hp hv
   ·cases h
  ·cases h
 | iadr arr esz x i =>
  simp only[eff]at h
  split at h
  ·rename_i k n hi
   split at h
   ·rename_i len s t i' j hx
    split at h
    ·rename_i hn
     simp only[Option.some.injEq]at h;subst h
     exact Aaa hm hs hok hi hx hn.1 hn.2
    ·cases h
   ·rename_i len cs hx
    split at h
    ·rename_i hn
     simp only[Option.some.injEq]at h;subst h
     exact Aab hm hs hok hi hx hn.1 hn.2
    ·cases h
   ·rename_i s t z off len hx
    split at h
    ·rename_i hn
     simp only[Option.some.injEq]at h;subst h
     exact Aac hm hs hok hi hx hn.1 hn.2.1 hn.2.2
    ·cases h
   ·rename_i l es hx
    split at h
    ·rename_i h0
     split at h
     ·rename_i cs hcs
      split at h
      ·rename_i hz
       simp only[Option.some.injEq]at h;subst h
       exact Aad hm hs hok hi hx h0 hcs hz
      ·cases h
     ·cases h
    ·cases h
   ·cases h
  ·cases h
 | idx len esz agg x i =>
  simp only[eff]at h
  split at h
  ·rename_i k n cs hi hx
   split at h
   ·rename_i hn
    split at h
    ·rename_i ds hp
     simp only[Option.map_eq_some_iff]at h
     obtain ⟨v,hv,rfl⟩:=h
     exact Aae hm hs hok hi hx hn.1 hn.2 hp hv
    ·cases h
   ·cases h
  ·cases h
 | ld agg n x =>
  simp only[eff]at h
  split at h
  ·rename_i s t i j hx
   split at h
   ·rename_i cs hcs
    simp only[Option.map_eq_some_iff]at h
    obtain ⟨v,hv,rfl⟩:=h
    exact Aag hm hs hok hx (Ac3 hcs) hv
   ·cases h
  ·rename_i cs hx
   split at h
   ·rename_i ds hp
    simp only[Option.map_eq_some_iff]at h
    obtain ⟨v,hv,rfl⟩:=h
    exact Aaf hm hs hok hx hp hv
   ·cases h
  ·cases h
 | st n x v =>
  simp only[eff]at h
  split at h
  ·rename_i s t i j vs hx hvs
   split at h
   ·rename_i hn
    simp only[Option.map_eq_some_iff]at h
    obtain ⟨own',ho,rfl⟩:=h
    exact jD hm hs hok hx hvs hn ho
   ·cases h
  ·cases h
 | mk s esz bytes zero l c =>
  simp only[eff]at h
  split at h
  ·rename_i kl a' kc b' hl hc
   split at h
   ·rename_i hn
    simp only[Option.some.injEq]at h;subst h
    exact Aai hm hs hok hl hc hn.1 hn.2.1 hn.2.2.1 hn.2.2.2.1 hn.2.2.2.2
   ·cases h
  ·cases h
 | slc esz x lo hi =>
  simp only[eff]at h
  have bnd : ∀ (d:Nat) (y:Option AQ) (q:Nat),(match y with|none=>some d|some o=>match ρ o with | .int _ n=>if 0<=n/\n<=d then some n.toNat else none|_=>none)=some q -> ∃ n:Int,G5 ρ d y=some n/\0<=n/\n<=d/\q=n.toNat:=fun d y q hq=>by
   cases y with
   | none=>simp only[Option.some.injEq]at hq;subst hq;exact ⟨d,rfl,by omega,by omega,by simp⟩
   | some y =>
    simp only at hq
    cases hy:ρ y with
    | int k n =>
     simp only[hy]at hq
     split at hq
     ·rename_i hn
      simp only[Option.some.injEq]at hq;subst hq
      exact ⟨n,by simp [G5,hy],hn.1,hn.2,rfl⟩
     ·cases hq
    | _=>simp [hy]at hq
  have bnd0 : ∀ (y:Option AQ) (q:Nat),(match y with|none=>some 0|some o=>match ρ o with | .int _ n=>if 0<=n then some n.toNat else none|_=>none)=some q -> ∃ n:Int,G5 ρ 0 y=some n/\0<=n/\q=n.toNat:=fun y q hq=>by
   cases y with
   | none=>simp only[Option.some.injEq]at hq;subst hq;exact ⟨0,rfl,by omega,by simp⟩
   | some y =>
    simp only at hq
    cases hy:ρ y with
    | int k n =>
     simp only[hy]at hq
     split at hq
     ·rename_i hn
      simp only[Option.some.injEq]at hq;subst hq
      exact ⟨n,by simp [G5,hy],hn,rfl⟩
     ·cases hq
    | _=>simp [hy]at hq
  have bndz : ∀ (y:Option AQ) (q:Nat),(match y with|none=>some 0|some o=>match ρ o with | .int _ n=>if n=0 then some 0 else none|_=>none)=some q->G5 ρ 0 y=some 0:=fun y q hq=>by
   cases y with
   | none=>rfl
   | some y =>
    simp only at hq
    cases hy:ρ y with
    | int k n =>
     simp only[hy]at hq
     split at hq
     ·rename_i hn
      subst hn
      simp [G5,hy]
     ·cases hq
    | _=>simp [hy]at hq
  split at h
  ·rename_i l es hx
   split at h
   ·rename_i q1 q2 h1 h2
    split at h
    ·rename_i hq
     simp only[Option.some.injEq]at h;subst h
     obtain ⟨n1,b1,c1,rfl⟩:=bnd0 _ _ h1
     obtain ⟨n2,b2,c2,c3,rfl⟩:=bnd _ _ _ h2
     exact Aar hm hs hok hx b1 b2 c1 (by omega) c3 hq.2
    ·cases h
   ·cases h
  ·rename_i hx
   split at h
   ·rename_i q1 q2 h1 h2
    simp only[Option.some.injEq]at h;subst h
    exact Aap hm hs hok hx (bndz _ _ h1) (bndz _ _ h2)
   ·cases h
  ·rename_i s t z off len hx
   split at h
   ·rename_i q1 q2 h1 h2
    split at h
    ·rename_i hq
     simp only[Option.some.injEq]at h;subst h
     obtain ⟨n1,b1,c1,rfl⟩:=bnd0 _ _ h1
     obtain ⟨n2,b2,c2,c3,rfl⟩:=bnd _ _ _ h2
     exact Aaq hm hs hok hx b1 b2 c1 (by omega) c3 hq.2
    ·cases h
   ·cases h
  ·cases h
 | ext x i =>
  simp only[eff]at h
  split at h
  ·rename_i vs hx
   simp only[Option.map_eq_some_iff]at h
   obtain ⟨v,hv,rfl⟩:=h
   exact zW hm hs hok hx hv
  ·cases h
 | len x =>
  simp only[eff]at h
  split at h
  ·rename_i n hn
   simp only[Option.some.injEq]at h;subst h
   exact Aah hm hs hok hn
  ·cases h
 | mm mx xs =>
  simp only[eff]at h
  split at h
  ·cases h
  ·rename_i v r hx
   simp only[Option.map_eq_some_iff]at h
   obtain ⟨q,hq,rfl⟩:=h
   exact Aal hm hs hok hx hq
 | app s esz bytes x y =>
  simp only[eff]at h
  split at h
  ·rename_i ys hys
   split at h
   ·rename_i hz
    split at h
    ·rename_i s' t z len hx
     split at h
     ·rename_i b hb
      split at h
      ·rename_i hn
       obtain ⟨n1,rfl,n3,n4,n5⟩:=hn
       simp only[Option.some.injEq]at h;subst h
       exact iX hm hs hok hys hz hx hb n1 n3 n4 n5
      ·cases h
     ·cases h
    ·rename_i hx
     split at h
     ·rename_i hn
      simp only[Option.some.injEq]at h;subst h
      exact zF hm hs hok hys hz hx hn.1 hn.2
     ·cases h
    ·cases h
   ·cases h
  ·cases h
 | cpy esz x y =>
  simp only[eff]at h
  split at h
  ·rename_i s t z off len ys hx hys
   split at h
   ·rename_i b hb
    split at h
    ·rename_i hn
     obtain ⟨n1,rfl,n3,n4⟩:=hn
     simp only[Option.some.injEq]at h;subst h
     exact zV hm hs hok hys n4 hx hb n1 n3
    ·cases h
   ·cases h
  ·cases h
 | call f xs =>
  simp only[eff]at h
  split at h
  ·rename_i vs hvs
   simp only[Option.map_eq_some_iff]at h
   obtain ⟨r,hr,rfl⟩:=h
   exact zN hC hm hs hok (Ada hvs) hr
  ·cases h
 | calli f xs =>
  simp only[eff,Option.map_eq_some_iff]at h
  obtain ⟨r,hr,rfl⟩:=h
  exact iY hC hm hs hok hr
 | isn ne x =>
  simp only[eff]at h
  split at h
  ·rename_i hx
   simp only[Option.some.injEq]at h;subst h
   exact WP hm hs hok (b:=true) fun v hv=>by rw[hx]at hv;exact ⟨none,0,0,OH hv,rfl⟩
  ·rename_i b hx
   simp only[Option.some.injEq]at h;subst h
   exact WP hm hs hok (b:=b) fun v hv=>by
    rw[hx]at hv
    obtain ⟨ad,c,h1,h2⟩:=iG hv
    exact ⟨ad,0,c,h1,h2⟩
  ·rename_i hx
   simp only[Option.some.injEq]at h;subst h
   exact WP hm hs hok (b:=false) fun v hv=>by rw[hx]at hv;exact yL hv
  ·rename_i hx
   simp only[Option.some.injEq]at h;subst h
   exact WP hm hs hok (b:=false) fun v hv=>by rw[hx]at hv;exact yK hv
  ·cases h
 | bad =>
  have h:(none:Option CP)=some E:=h
  cases h
 | nck x =>
  simp only[eff]at h
  split at h
  ·rename_i hx
   simp only[Option.some.injEq]at h;subst h
   exact Aan hm hs hok hx
  ·cases h
 | capn x =>
  simp only[eff]at h
  split at h
  ·rename_i hx
   simp only[Option.some.injEq]at h;subst h
   exact zT hm hs hok hx
  ·cases h
 | cals s f xs =>
  simp only[eff,Option.map_eq_some_iff]at h
  obtain ⟨p,hp,rfl⟩:=h
  exact iY hC hm hs (AcG hok) (V8.1 hp m.own rfl)
 | apd s esz bytes x y =>
  simp only[eff]at h
  split at h
  ·rename_i q ys hx hy
   split at h
   ·rename_i hn
    simp only[Option.some.injEq]at h;subst h
    exact zD hm hs hok (ys:=ys) (by rw[hy];rfl) hn.1 hx hn.2.1 hn.2.2.1 hn.2.2.2
   ·cases h
  ·cases h
 | apz s esz bytes x y =>
  simp only[eff]at h
  split at h
  ·rename_i k n hx hy
   split at h
   ·rename_i hn
    simp only[Option.some.injEq]at h;subst h
    exact zG hm hs hok hx hy hn.1 hn.2.1 hn.2.2
   ·cases h
  ·cases h
 | sidx tb x =>
  simp only[eff]at h
  split at h
  ·rename_i k n hx
   split at h
   ·rename_i h0
    split at h
    ·rename_i v hv
     simp only[Option.some.injEq]at h;subst h
     exact Aao hm hs hok hx h0 hv
    ·cases h
   ·cases h
  ·cases h
 | mkf p f xs =>
  simp only[eff,Option.map_eq_some_iff]at h
  obtain ⟨cs,hcs,rfl⟩:=h
  rw[hC.num]
  exact Aaj hm hs hok hcs
 | callq f xs =>
  simp only[eff]at h
  split at h
  ·rename_i hq
   split at h
   ·rename_i r hr
    split at h
    ·rename_i hfl
     simp only[Option.some.injEq]at h;subst h
     exact zP hC hm hs hok hq hr hfl
    ·cases h
   ·cases h
  ·cases h
 | callr s f xs =>
  simp only[eff]at h
  split at h
  ·rename_i vs hvs
   simp only[Option.map_eq_some_iff]at h
   obtain ⟨⟨z,es⟩,hr,rfl⟩:=h
   exact zQ hC hm hs hok (Adc hvs) hr
  ·cases h
 | appo s esz bytes x y =>
  simp only[eff]at h
  split at h
  ·rename_i l ys s' t z len hy hx
   split at h
   ·rename_i b hb
    split at h
    ·rename_i hn
     obtain ⟨rfl,hz,n1,rfl,n3,n4,n5⟩:=hn
     simp only[Option.some.injEq]at h;subst h
     have:=iX hm hs (Acw hok) (ys:=ys) (by rw[hy];rfl) hz hx hb n1 n3 n4 n5
     intro K Q hK
     exact this K Q fun u m' h1 h2 h3 h4=>hK u m' h1 h2 h3 h4
    ·cases h
   ·cases h
  ·cases h
 | sto s n x v =>
  simp only[eff]at h
  split at h
  ·rename_i s' t i j vs hx hvs
   split at h
   ·rename_i hn
    obtain ⟨rfl,hn⟩:=hn
    simp only[Option.map_eq_some_iff]at h
    obtain ⟨own',ho,rfl⟩:=h
    have:=jD hm hs (AcX hok) hx hvs hn ho
    intro K Q hK
    refine this K Q fun u m' h1 h2 h3 h4=>hK u m' ?_ h2 h3 h4
    rw[h1]
    exact (AgI ho).symm
   ·cases h
  ·cases h
 | callv x xs =>
  simp only[eff]at h
  split at h
  ·rename_i p f g cs hx
   split at h
   ·rename_i hg
    rw[hC.num]at hg
    subst hg
    split at h
    ·split at h
     ·rename_i vs hvs
      simp only[Option.map_eq_some_iff]at h
      obtain ⟨r,hr,rfl⟩:=h
      exact zO hC hm hs hok hx hvs hr
     ·cases h
    ·simp only[Option.map_eq_some_iff]at h
     obtain ⟨r,hr,rfl⟩:=h
     exact zR hC hm hs hok hx hr
    ·cases h
   ·cases h
  ·cases h
end
end Go.Eng
