/-
  Addresses, loads, stores, slices.
-/
import Derived.Test.YtckpiejepaconaaGreatB1
import Derived.Laws.Slices
import Derived.Orders
import Derived.IntWalk
set_option linter.unusedSimpArgs false
set_option linter.unusedVariables false
set_option linter.unnecessarySimpa false
open Array renaming getElem?_eq_some_iff->jb,getD->pd,replicate->Kd,getElem?_toList->ze,getElem?_append_left->Se,getElem?_eq_getElem->Oe,size_append->yf,foldl_toList->Sg
open Bool renaming and_eq_true->Sb,false_eq_true->Sc,or_eq_true->Hd,true_eq_false->Og,not_eq_true'->Kg
open Int renaming dvd_iff_emod_eq_zero->Gf,natCast_mul->vh,ofNat_le->lh
open List renaming getElem?_map->Fb,eq_nil_of_length_eq_zero->zc,getElem?_take->yc,getElem?_drop->fc,getElem?_append_left->Vc,mem_append->Oc,getElem?_append_right->Cc,mapM_cons->cd,all_eq_true->Td,getElem_mem->ue,mem_of_mem_take->ie,mem_zipIdx_iff_getElem?->Ue,mem_flatMap->Je,range->Ge,length_map->Ee,getElem?_range->De,mem_cons->Ce,map_cons->Be,length_take->ef,length_drop->Vf,replicate->Tf,drop_eq_getElem_cons->Lf,getD->Jf,getElem?_toArray->yg,mem_of_mem_drop->vg,map_congr_left->Wg,getElem_of_mem->Tg,size_toArray->Lg,countP_cons->Jg,foldl_cons->Hg,cons.injEq->Gg
open Nat renaming beq->Ub,le_max_right->Wc,le_max_left->Nc,le_refl->Gc,add_mul->td,eq_zero_or_pos->Vd,zero_add->Sd,succ_mul->Qd,le_trans->Te,pos_of_ne_zero->Re,mul_comm->pf,add_mul_mod_self_right->Qf,add_assoc->Kf,lt_or_ge->Bf,add_zero->Af,add_comm->zg,div_lt_of_lt_mul->ig,lt_or_gt_of_ne->Mg,mod_eq_of_lt->Ig,div_add_mod->Bg,shiftLeft->ph,ble->nh,mod_lt->fh,lor->ch
open Option renaming some.injEq->ka,map_eq_some_iff->Sa,some.inj->Eb,map_some->Qc,isSome_iff_exists->ud,map_none->oe,bind_eq_bind->We,getD_some->Le,pure_def->He,bind_some->Qg
namespace Go.j4
open Go.RowKit
section
variable {B:Nat} {S:Nat->Prop} {w0:World} {m:M}
variable {P:Program} {num:Nat->Nat} {o:Oper} {a:Act} {ρ:BM->AV}
theorem rD {x:AV} {v:Value} (h:CV B S m x v) (h1:x ≠ .any) (h2 : ∀ cs,x ≠ .agg cs) (h3 : ∀ cs,x ≠ .e9 cs) (h4 : ∀ p f g cs,x ≠ .fn p f g cs:=by intros;simp):CC B S m x v:=by
 cases h with
 | any=>exact absurd rfl h1
 | e9 as=>exact absurd rfl (h3 as)
 | ca h=>cases h with
  | one h=>exact h
  | agg cs=>exact absurd rfl (h2 cs)
  | fn p f g cs=>exact absurd rfl (h4 p f g cs)
  | Cm f g cs=>exact absurd rfl (h4 true f g cs)
theorem mD {s t i j:Nat} {v:Value} (h:CV B S m (.ptr s t i j) v) : ∃ ad,v = .pointer (some ad)/\t<m.own.j8 s /\ ∀ b,m.own.get s t=some b -> ∃ g,m.ν s t=some g/\ad=⟨g,i*b.a9+j,none⟩:=by
 cases rD h p_ p_ p_ with
 | rd h=>cases h
 | ptr s t i j ad ht h'=>exact ⟨ad,rfl,ht,h'⟩
theorem wT {cs:d_} {v:Value} (h:CV B S m (.af cs) v) : ∃ (b o:Nat) (u:Nat->Value) (l:Bool),v = .pointer (some ⟨b,o,none⟩)/\(cs≠[]->safe B S m l b)/\(∀ j c,cs[j]? = some c->m.w.cell? ⟨b,o+j,none⟩=some (u j))/\(∀ j c,cs[j]? = some c->Rd m.w (safe B S m) c (u j)):=by
 cases rD h p_ p_ p_ with
 | rd h=>cases h
 | af _ b o u l h1 h2 h3=>exact ⟨b,o,u,l,rfl,h1,h2,h3⟩
theorem jK {s t z off len:Nat} {v:Value} (h:CV B S m (.row s t z off len) v) : ∃ (ad:Option Addr) (cap:Nat),v = .slice ad len cap/\t<m.own.j8 s/\0<z/\len<=cap/\(0<len->ad.isSome=true) /\
  ∀ b,m.own.get s t=some b->b.a9=z/\((len=0/\cap=0) \/ ∃ g arr e,m.ν s t=some g/\ad=some ⟨g,off*z,none⟩/\m.w.heap[g]? = some (.cells arr e (0,0))/\(off+cap)*z<=arr.size):=by
 cases rD h p_ p_ p_ with
 | rd h=>cases h
 | row s t z off len ad cap ht jt wu ha h'=>exact ⟨ad,cap,rfl,ht,jt,wu,ha,h'⟩
theorem rF {l:Bool} {es:c_} {v:Value} (h:CV B S m (.sl l es) v):Rd m.w (safe B S m) (.sl l es) v:=by
 cases rD h p_ p_ p_ with
 | rd h=>exact h
theorem Amt (hm:DR B S w0 m) (hs:E9 B S m ρ a.eval) {x':BM} {off:Nat} (h:C5 P num o.op (.dj x' off)=true) {s t i j:Nat} (hx:ρ x' = .ptr s t i j):FE B S w0 P o a m (.val (.ptr s t i (j+off))):=by
 obtain ⟨ty,x,f,fs,fd,inf,m7,h1,hu,hf,ho,hi,cz⟩:=AeT h;obtain ⟨ad,hv,ht,hb⟩:=mD (hx ▸ hs x x' h1);refine HY hm (u := .pointer (some (ad.add off))) ?_ (.ca (.one (.ptr s t i (j+off) _ ht λ b m9 => ?_)))
 ·simp [execOp,m7,hv,Instr.fieldAt,run_underlying hu,hf,Instr.sureAddr,fieldPlace,sizeOf,typeInfo,hi,cz,ho]
 ·obtain ⟨g,hg,rfl⟩:=hb b m9
  exact ⟨g,hg,by rw[M8];simp;omega⟩
theorem Ams (hm:DR B S w0 m) (hs:E9 B S m ρ a.eval) {x':BM} {off:Nat} (h:C5 P num o.op (.dj x' off)=true) {cs:d_} (hx:ρ x' = .af cs):FE B S w0 P o a m (.val (.af (cs.drop off))):=by
 obtain ⟨ty,x,f,fs,fd,inf,m7,h1,hu,hf,ho,hi,cz⟩:=AeT h;obtain ⟨b,ob,u,l,hv,hR,hc,hr⟩:=wT (hx ▸ hs x x' h1);refine HY hm (u := .pointer (some ⟨b,ob+off,none⟩)) ?_ (.ca (.one (.af _ b (ob+off) (λ j=>u (off+j)) l (λ n6=>hR (λ e=>n6 (by simp [e]))) (λ j c hj => ?_) (λ j c hj => ?_))))
 ·simp [execOp,m7,hv,Instr.fieldAt,run_underlying hu,hf,Instr.sureAddr,fieldPlace,sizeOf,typeInfo,hi,cz,ho,M8]
 ·rw[fc]at hj
  rw[Kf];exact hc _ c hj
 ·rw[fc]at hj
  exact hr _ c hj
theorem sZ {agg:Bool} {cs:d_} {v:AV} (h:RH agg cs=some v) {vs:List Value} (hc:CL B S m cs vs):CV B S m v (if agg then .agg vs.toArray else vs.getD 0 undef)/\(agg=false->vs.length=1):=by
 unfold RH at h;cases agg with
 | true =>
  obtain rfl:AV.agg cs=v:=by simpa using h
  exact ⟨.ca (.agg cs vs hc),p_⟩
 | false =>
  simp only[Sc,if_false]at h;split at h
  ·rename_i c
   obtain rfl:c=v:=by simpa using h
   obtain ⟨u,hu,fe⟩:=jI hc (j:=0) (c:=c) rfl;refine ⟨?_,λ_=>by rw[<-hc.1];rfl⟩;simp only[Sc,if_false,Jf,hu,Le];exact .ca (.one fe)
  ·cases h
theorem ArW (t:TypeId) (agg:Bool) (inf:TypeInfo) (qo : ∀ w,(isAgg t).run P w = .ok agg w) (hi:P.info? t=some inf) (vs:List Value) (off n:Nat) (hn:inf.size=n) (hle:off+n<=vs.length) (h1:agg=false->n=1) (w:World) :
  (Go.part t vs.toArray off).run P w = .ok (if agg then .agg ((vs.drop off).take n).toArray else ((vs.drop off).take n).getD 0 undef) w:=by
 unfold Go.part;rw[Sem.run_bind,qo w];cases agg with
 | true=>simp [sizeOf,typeInfo,hi,hn,List.extract_eq_take_drop]
 | false =>
  have n7:off<vs.length:=by have:=h1 rfl;omega
  simp [n7,h1 rfl]
theorem Amu (hm:DR B S w0 m) (hs:E9 B S m ρ a.eval) {x':BM} {off n:Nat} {agg:Bool} (h:C5 P num o.op (.zf x' off n agg)=true) {cs ds:d_} {v:AV} (hx:ρ x' = .agg cs) (hp:part cs off n=some ds) (hv:RH agg ds=some v) :
  FE B S w0 P o a m (.val v):=by
 obtain ⟨ty,x,f,fs,fd,inf,m7,h1,hu,hf,ho,hi,cz,qo,h0⟩:=Ap8 h;obtain ⟨vs,gv,q5⟩:=rC (hx ▸ hs x x' h1);unfold j4.part at hp;split at hp
 ·rename_i hle
  obtain rfl:(cs.drop off).take n=ds:=by simpa using hp
  obtain ⟨dh,py⟩:=sZ hv (AkZ q5 off n);have hl:=q5.1;have Hc:agg=false->n=1:=λ e=>by have:=py e;simp at this;omega
  refine HY hm ?_ dh;simp only[execOp,m7,Sem.run_bind,Instr.field,run_underlying hu,Result.andThen_ok,hf,gv,asAgg,Sem.run_pure,ho];rw[ArW fd.type agg inf qo hi vs off n cz D' Hc];rfl
 ·cases hp
theorem Amv (hm:DR B S w0 m) (hs:E9 B S m ρ a.eval) {len a9:Nat} {x' i':BM} (h:C5 P num o.op (.cp (some len) a9 x' i')=true) {k:IntKind} {n:Int} {s t i0 j:Nat} (v5:ρ i' = .int k n) (hx:ρ x' = .ptr s t i0 j) (h0:0<=n) (hn:n<len) :
  FE B S w0 P o a m (.val (.ptr s t i0 (j+n.toNat*a9))):=by
 obtain ⟨ty,x,i,e,inf,m7,h1,h2,hi,cz,gn⟩:=sJ h;rcases gn with ⟨Ci,hl,hu,n7⟩|⟨hl,_⟩
 ·obtain rfl:len=Ci:=by simpa using hl
  obtain ⟨ad,hv,ht,hb⟩:=mD (hx ▸ hs x x' h1);have Gb:=NE (v5 ▸ hs i i' h2);refine HY hm (u := .pointer (some (ad.add (n.toNat*a9)))) ?_ (.ca (.one (.ptr s t i0 (j+n.toNat*a9) _ ht λ b m9 => ?_)))
  ·simp [execOp,m7,hv,Gb,Instr.indexAt,asIntOf,run_underlying hu,Instr.sureAddr,sizeOf,typeInfo,hi,cz,h0,hn]
  ·obtain ⟨g,hg,rfl⟩:=hb b m9
   exact ⟨g,hg,by rw[M8];simp;omega⟩
 ·cases hl
theorem Amw (hm:DR B S w0 m) (hs:E9 B S m ρ a.eval) {len a9:Nat} {x' i':BM} (h:C5 P num o.op (.cp (some len) a9 x' i')=true) {k:IntKind} {n:Int} {cs:d_} (v5:ρ i' = .int k n) (hx:ρ x' = .af cs) (h0:0<=n) (hn:n<len) :
  FE B S w0 P o a m (.val (.af (cs.drop (n.toNat*a9)))):=by
 obtain ⟨ty,x,i,e,inf,m7,h1,h2,hi,cz,gn⟩:=sJ h;rcases gn with ⟨Ci,hl,hu,n7⟩|⟨hl,_⟩
 ·obtain rfl:len=Ci:=by simpa using hl
  obtain ⟨b,ob,u,l,hv,hR,hc,hr⟩:=wT (hx ▸ hs x x' h1);have Gb:=NE (v5 ▸ hs i i' h2);refine HY hm (u := .pointer (some ⟨b,ob+n.toNat*a9,none⟩)) ?_ (.ca (.one (.af _ b (ob+n.toNat*a9) (λ j=>u (n.toNat*a9+j)) l (λ n6=>hR (λ e=>n6 (by simp [e]))) (λ j c hj => ?_) (λ j c hj => ?_))))
  ·simp [execOp,m7,hv,Gb,Instr.indexAt,asIntOf,run_underlying hu,Instr.sureAddr,sizeOf,typeInfo,hi,cz,h0,hn,M8]
  ·rw[fc]at hj
   rw[Kf];exact hc _ c hj
  ·rw[fc]at hj
   exact hr _ c hj
 ·cases hl
theorem Ago (ty e:TypeId) (inf:TypeInfo) (hu:P.underlying ty=some (.slice e)) (hi:P.info? e=some inf) (ad:Addr) (len cap:Nat) (k:IntKind) (n:Int) (h0:0<=n) (hn:n<len) (w:World) :
  (Instr.indexAt ty (.slice (some ad) len cap) (.int k n)).run P w = .ok (.pointer (some (ad.add (n.toNat*inf.size)))) w:=by
 simp [Instr.indexAt,asIntOf,run_underlying hu,sizeOf,typeInfo,hi,h0,hn]
theorem Amx (hm:DR B S w0 m) (hs:E9 B S m ρ a.eval) {a9:Nat} {x' i':BM} (h:C5 P num o.op (.cp none a9 x' i')=true) {k:IntKind} {n:Int} {s t z off len:Nat} (v5:ρ i' = .int k n) (hx:ρ x' = .row s t z off len) (h0:0<=n) (hn:n<len) (hz:z=a9) :
  FE B S w0 P o a m (.val (.ptr s t (off+n.toNat) 0)):=by
 obtain ⟨ty,x,i,e,inf,m7,h1,h2,hi,cz,gn⟩:=sJ h;rcases gn with ⟨_,hl,_⟩|⟨_,hu,_⟩
 ·cases hl
 ·obtain ⟨ad,cap,hv,ht,jt,wu,ha,hb⟩:=jK (hx ▸ hs x x' h1)
  have Gb:=NE (v5 ▸ hs i i' h2);obtain ⟨Pc,rfl⟩:=ud.1 (ha D');refine HY hm (u := .pointer (some (Pc.add (n.toNat*a9)))) ?_ (.ca (.one (.ptr s t (off+n.toNat) 0 _ ht λ b m9 => ?_)))
  ·simp only[execOp,m7,hv,Gb,Sem.run_bind]
   rw[Ago ty e inf hu hi Pc len cap k n h0 hn,cz];rfl
  ·obtain ⟨Bh,gn⟩:=hb b m9
   rcases gn with ⟨qz,_⟩|⟨g,arr,e',hg,ve,_,_⟩
   ·omega
   ·obtain rfl:Pc=⟨g,off*z,none⟩:=by simpa using ve
    exact ⟨g,hg,by rw[M8,Bh,<-hz,td];rfl⟩
theorem Amy (hm:DR B S w0 m) (hs:E9 B S m ρ a.eval) {a9:Nat} {x' i':BM} (h:C5 P num o.op (.cp none a9 x' i')=true) {k:IntKind} {n:Int} {l:Bool} {es:c_} {cs:d_} (v5:ρ i' = .int k n) (hx:ρ x' = .sl l es) (h0:0<=n) (hn:es[n.toNat]? = some cs) (hz:cs.length=a9) :
  FE B S w0 P o a m (.val (.af cs)):=by
 obtain ⟨ty,x,i,e,inf,m7,h1,h2,hi,cz,gn⟩:=sJ h;rcases gn with ⟨_,hl,_⟩|⟨_,hu,_⟩
 ·cases hl
 ·have tk:=rF (hx ▸ hs x x' h1)
  have Gb:=NE (v5 ▸ hs i i' h2);have n7:n.toNat<es.length:=(zS hn).1;generalize gv:a.eval x=v at tk;cases tk with
  | sj=>simp at n7
  | sl _ _ b ob cj cap u n6 hp hR fk oo hc hr =>
   have Ve:cj=a9:=by
    rw[<-hz];exact (oo cs (zM hn)).symm
   subst Ve;refine HY hm (u := .pointer (some ⟨b,ob+n.toNat*cj,none⟩)) ?_ (.ca (.one (.af _ b (ob+n.toNat*cj) (u n.toNat) l (λ_=>hR) (λ j c hj => ?_) (λ j c hj=>hr _ cs hn j c hj))))
   ·simp only[execOp,m7,gv,Gb,Sem.run_bind]
    rw[Ago ty e inf hu hi ⟨b,ob,none⟩ es.length cap k n h0 D',cz,M8];rfl
   ·rw[Kf]
    exact hc _ cs hn j c hj
end
end Go.j4
namespace Go.j4
open Go.RowKit
section
variable {B:Nat} {S:Nat->Prop} {w0:World} {m:M}
variable {P:Program} {num:Nat->Nat} {o:Oper} {a:Act} {ρ:BM->AV}
theorem Xg (t:TypeId) (agg:Bool) (n:Nat) (qo : ∀ w,(isAgg t).run P w = .ok agg w) (hn:if agg then ∃ i,P.info? t=some i/\i.size=n else n=1) (ad:Addr) (vs:List Value) (hl:vs.length=n) (w:World)
  (hc : ∀ q v,vs[q]? = some v->w.cell? (ad.add q)=some v):(Instr.loadAt t (.pointer (some ad))).run P w = .ok (if agg then .agg vs.toArray else vs.getD 0 undef) w:=by
 unfold Instr.loadAt loadVar;simp only[Instr.sureAddr,Sem.run_bind,Sem.run_pure,Result.andThen_ok,qo w];cases agg with
 | true =>
  simp only[if_true]at hn;obtain ⟨i,hi,hs⟩:=hn;have:=run_loadCells_list (P:=P) w ad vs hc
  simp [sizeOf,typeInfo,hi,hs,<-hl,this]
 | false =>
  simp only[Sc,if_false]at hn ⊢;have n7:0<vs.length:=D'
  have h0:=hc 0 vs[0] (zE n7);have Hb:w.cell? ad=some vs[0]:=by simpa [Addr.add] using h0
  simp [load,Sem.run,Hb,n7]
theorem AfT (hm:DR B S w0 m) {s t i j n:Nat} {cs:d_} (h:m.own.As s t i j n=some cs) : ∃ b g arr e,m.own.get s t=some b/\(0<n->m.ν s t=some g/\m.w.heap[g]? = some (.cells arr e (0,0))) /\
  ∃ vs:List Value,vs.length=n/\CL B S m cs vs /\ ∀ q v,vs[q]? = some v->arr[i*b.a9+j+q]? = some v:=by
 unfold BF.As at h;cases hb:m.own.get s t with
 | none=>simp [hb]at h
 | some b =>
  simp only[hb]at h;cases he:b.es[i]? with
  | none=>simp [he]at h
  | some ds =>
   simp only[he,part]at h;split at h
   ·rename_i hle
    obtain rfl:(ds.drop j).take n=cs:=by simpa using h
    obtain ⟨hz,ko⟩:=hm.g8 s t b hb;cases hν:m.ν s t with
    | none =>
     rw[hν]at ko;rw[ko]at he;simp at he
    | some g =>
     rw[hν]at ko;obtain ⟨hB,arr,e,hh,fe⟩:=ko;have cz : ∀ q,q<n -> ∃ u,arr[i*b.a9+j+q]? = some u:=λ q hq=>by
      have n7:j+q<ds.length:=D'
      obtain ⟨u,hu,_⟩:=fe i ds he (j+q) ds[j+q] (zE n7);exact ⟨u,by rw[<-hu];congr 1;omega⟩
     refine ⟨b,g,arr,e,rfl,λ_=>⟨rfl,hh⟩,(arr.toList.drop (i*b.a9+j)).take n,?_,⟨?_,?_⟩,?_⟩
     ·rw[ef,Vf]
      rcases Vd n with h0|h0
      ·omega
      ·obtain ⟨u,hu⟩:=cz (n-1) D'
       have:=(jb.1 hu).1
       simp;omega
     ·rw[ef,ef,Vf,Vf]
      rcases Vd n with h0|h0
      ·omega
      ·obtain ⟨u,hu⟩:=cz (n-1) D'
       have:=(jb.1 hu).1
       simp;omega
     ·intro q c v hq hv
      rw[yc]at hq hv;split at hq
      ·rename_i Uf
       rw[if_pos Uf]at hv;rw[fc]at hq hv;obtain ⟨u,hu,hc⟩:=fe i ds he (j+q) c hq;have:some u=some v:=by
        rw[<-hu,<-hv];simp only[ze];congr 1;omega
       obtain rfl:u=v:=by simpa using this
       exact hc
      ·cases hq
     ·intro q v hv
      rw[yc]at hv;split at hv
      ·rw[fc]at hv
       simpa using hv
      ·cases hv
   ·cases h
theorem qT {w:World} {g p:Nat} {arr:Array Value} {e:TypeId} (h:w.heap[g]? = some (.cells arr e (0,0))):w.cell? ⟨g,p,none⟩=arr[p]? := by
 simp [World.cell?,h]
theorem Amz (hm:DR B S w0 m) (hs:E9 B S m ρ a.eval) {agg:Bool} {n:Nat} {x':BM} (h:C5 P num o.op (.ld agg n x')=true) {s t i j:Nat} {cs:d_} {v:AV} (hx:ρ x' = .ptr s t i j) (hl:m.own.As s t i j n=some cs) (hv:RH agg cs=some v) :
  FE B S w0 P o a m (.val v):=by
 obtain ⟨ty,x,m7,h1,qo,hn⟩:=AeU h;obtain ⟨ad,gv,ht,hb⟩:=mD (hx ▸ hs x x' h1);obtain ⟨b,g,arr,e,u6,hg,vs,qm,q5,pg⟩:=AfT hm hl;obtain ⟨dh,_⟩:=sZ hv q5;refine HY hm ?_ dh;simp only[execOp,m7,Sem.run_bind,gv];rw[Xg ty agg n qo hn ad vs qm m.w (λ q u hq => ?_)]
 ·rfl
 ·have n7:q<vs.length:=(zS hq).1
  obtain ⟨Hq,ta⟩:=hg D';obtain ⟨g',lq,rfl⟩:=hb b u6;obtain rfl:g=g':=by rw[Hq]at lq;simpa using lq
  rw[M8,qT ta];exact pg q u hq
theorem Adf (hm:DR B S w0 m) (hs:E9 B S m ρ a.eval) {agg:Bool} {n:Nat} {x':BM} (h:C5 P num o.op (.ld agg n x')=true) {cs ds:d_} {v:AV} (hx:ρ x' = .af cs) (hl:part cs 0 n=some ds) (hv:RH agg ds=some v) :
  FE B S w0 P o a m (.val v):=by
 obtain ⟨ty,x,m7,h1,qo,hn⟩:=AeU h;obtain ⟨b,ob,u,l,gv,hR,hc,hr⟩:=wT (hx ▸ hs x x' h1);unfold j4.part at hl;split at hl
 ·rename_i hle
  obtain rfl:(cs.drop 0).take n=ds:=by simpa using hl
  have q5:CL B S m ((cs.drop 0).take n) ((Ge n).map u):=by
   refine ⟨by simp;omega,λ q c v' hq xd => ?_⟩;simp only[List.drop_zero,yc]at hq;split at hq
   ·rename_i Uf
    simp [Uf]at xd;subst xd;exact .rd (hr q c hq)
   ·cases hq
  obtain ⟨dh,_⟩:=sZ hv q5;refine HY hm ?_ dh;simp only[execOp,m7,Sem.run_bind,gv];rw[Xg ty agg n qo hn ⟨b,ob,none⟩ ((Ge n).map u) p_ m.w (λ q w' hq => ?_)]
  ·rfl
  ·have Uf:q<n:=by have:=(zS hq).1;simpa using this
   simp [Uf]at hq;subst hq;rw[M8];exact hc q cs[q] (zE D')
 ·cases hl
theorem Abn {α:Type} (l:List α) (off:Nat) (vs:List α) (h:off+vs.length<=l.length) (q:Nat):(l.take off++vs++l.drop (off+vs.length))[q]? = if q<off then l[q]? else if q<off+vs.length then vs[q-off]? else l[q]? := by
 rw[List.append_assoc];by_cases h1:q<off
 ·rw[if_pos h1,Vc W_,yc,if_pos h1]
 ·rw[if_neg h1,Cc W_]
  have e1:(l.take off).length=off:=by simp;omega
  rw[e1];by_cases h2:q<off+vs.length
  ·rw[if_pos h2,Vc D']
  ·rw[if_neg h2,Cc D',fc]
   congr 1;omega
theorem Acq (hm:DR B S w0 m) {g:Nat} (hB:B<=g) (arr:Array Value):Below B w0 (m.w.setRow g arr) :=
 hm.below.trans ⟨rfl,rfl,rfl,p_,λ k hk=>setRow_other _ _ _ _ D'⟩
theorem Adk (hm:DR B S w0 m) (hs:E9 B S m ρ a.eval) {n:Nat} {x' v':BM} (h:C5 P num o.op (.st n x' v')=true) {s t i j:Nat} {vs:d_} {m8:BF} (hx:ρ x' = .ptr s t i j) (hv:cellsOf (ρ v')=some vs) (hn:vs.length=n) (m4:m.own.wg s t i j vs=some m8) :
  FE B S w0 P o a m (.kb (.e9 []) m8):=by
 obtain ⟨ty,x,v,inf,m7,h1,h2,hi,cz⟩:=Aqh h;obtain ⟨ad,gv,ht,hb⟩:=mD (hx ▸ hs x x' h1);have q5:=rE (hs v v' h2) hv;unfold BF.wg at m4;cases u6:m.own.get s t with
 | none=>simp [u6]at m4
 | some b =>
  simp only[u6]at m4;cases he:b.es[i]? with
  | none=>simp [he]at m4
  | some cs =>
   simp only[he]at m4;split at m4
   ·rename_i hle
    obtain rfl:=Eb m4;obtain ⟨hz,ko⟩:=hm.g8 s t b u6;obtain ⟨g,hg,rfl⟩:=hb b u6;rw[hg]at ko;obtain ⟨hB,arr,e,hh,fe⟩:=ko;have AtZ:cs.length=b.a9:=hz cs (zM he);have hlen:(a.eval v).cells.toList.length=vs.length:=q5.1.symm;have dw:i<b.es.length:=(zS he).1;have Np:i*b.a9+j+vs.length<=arr.size:=by
     rcases Vd vs.length with h0|h0
     ·rcases Vd j with hj0|hj0
      ·rw[h0,hj0]
       rcases Vd i with Bm|Bm
       ·rw[Bm];omega
       ·rcases Vd b.a9 with jt|jt
        ·rw[jt];omega
        ·have hi1:i-1<b.es.length:=D'
         have rf:(b.es[i-1]).length=b.a9:=hz _ (ue hi1);obtain ⟨u,hu,_⟩:=fe (i-1) _ (zE hi1) (b.a9-1) _ (zE D');have:=(jb.1 hu).1
         have e1:(i-1)*b.a9+b.a9=i*b.a9:=by
          rw[<-Qd];congr 1;omega
         omega
      ·obtain ⟨u,hu,_⟩:=fe i cs he (j-1) cs[j-1] (zE D')
       have:=(jb.1 hu).1
       omega
     ·obtain ⟨u,hu,_⟩:=fe i cs he (j+vs.length-1) cs[j+vs.length-1] (zE D')
      have:=(jb.1 hu).1
      omega
    have py:=AkY q5;have Em:=run_storeCells_at (P:=P) g (i*b.a9+j) e (a.eval v).cells.toList 0 arr m.w hh (by rw[hlen];omega) py;generalize xx:(arr.toList.take (i*b.a9+j+0)++(a.eval v).cells.toList++arr.toList.drop (i*b.a9+j+0+(a.eval v).cells.toList.length)).toArray=cg at Em;have Jn : ∀ p,cg[p]? = if p<i*b.a9+j then arr[p]? else if p<i*b.a9+j+vs.length then (a.eval v).cells.toList[p-(i*b.a9+j)]? else arr[p]? := λ p=>by
     rw[<-xx];simp only[Af,yg];rw[Abn _ _ _ (by rw[hlen];simpa using Np),hlen];simp only[ze]
    have Al:cg.size=arr.size:=by
     rw[<-xx];simp [hlen];have:=hlen
     simp at this;omega
    obtain ⟨k1,k2⟩:=AsU hm s t b ⟨b.a9,b.es.set i (splice cs j vs)⟩ u6 g hg arr cg e hh rfl (λ y hy=>by
      rcases List.mem_or_eq_of_mem_set hy with hy|hy
      ·exact hz y hy
      ·rw[hy,<-AtZ];simp [splice];omega) Al
     (λ i' lf v5 q c hq=>by
      show ∃ u,cg[i'*b.a9+q]? = some u/\_;change (b.es.set i (splice cs j vs))[i']? = some lf at v5;by_cases hii:i'=i
      ·subst hii
       rw[List.getElem?_set_self dw]at v5;obtain rfl:splice cs j vs=lf:=by simpa using v5
       unfold splice at hq;rw[Abn _ _ _ hle]at hq;rw[Jn];by_cases Ii:q<j
       ·rw[if_pos Ii]at hq
        rw[if_pos D'];exact fe i' cs he q c hq
       ·rw[if_neg Ii]at hq
        rw[if_neg D'];by_cases Gd:q<j+vs.length
        ·rw[if_pos Gd]at hq
         rw[if_pos D'];obtain ⟨u,hu,my⟩:=jI q5 hq;exact ⟨u,by rw[<-hu];congr 1;omega,my⟩
        ·rw[if_neg Gd]at hq
         rw[if_neg D'];exact fe i' cs he q c hq
      ·rw[List.getElem?_set_ne D']at v5
       have Cs:q<b.a9:=by
        rw[<-hz lf (zM v5)];exact (zS hq).1
       obtain ⟨u,hu,my⟩:=fe i' lf v5 q c hq;refine ⟨u,?_,my⟩;rw[Jn,<-hu];rcases Mg hii with n7|Cb
       ·have:(i'+1)*b.a9<=i*b.a9:=zR _ n7
        rw[Qd]at this;rw[if_pos D']
       ·have:(i+1)*b.a9<=i'*b.a9:=zR _ Cb
        rw[Qd]at this;rw[if_neg D',if_neg D'])
     (m.w.setRow g cg) (Acq hm hB cg) p_ (λ k hk=>setRow_other _ _ _ _ hk) (setRow_heap _ _ _ _ _ _ hh)
    intro K Q hK;refine Atd (w':=m.w.setRow g cg) ?_ (hK undef ⟨m.ν,_,m.w.setRow g cg⟩ rfl k1 k2 Afp);have Au0:(a.eval v).cells.size=inf.size:=by rw[cz,<-hn,<-hlen];simp
    simp only[execOp,m7,gv,Instr.storeAt,storeVar,Instr.sureAddr,Sem.run_bind,Sem.run_pure,Result.andThen_ok,sizeOf,typeInfo,run_program,hi];rw[if_neg (by simpa using Au0)];simp only[Sem.run_bind,Sem.run_pure,Result.andThen_ok,Em]
   ·cases m4
theorem AmB (hm:DR B S w0 m) (hs:E9 B S m ρ a.eval) {s a9 bytes:Nat} {zero:d_} {l' c':BM} (h:C5 P num o.op (.mk s a9 bytes zero l' c')=true) {kl kc:IntKind} {l c:Int} (hl:ρ l' = .int kl l) (hc:ρ c' = .int kc c) (h0:0<=l) (wu:l<=c) (hb:c*bytes<=H8) (Pg:c<=9223372036854775807) (hz:zero.length=a9) :
  FE B S w0 P o a m (.new s ⟨a9,Tf l.toNat zero⟩ (λ t => .row s t a9 0 l.toNat)):=by
 obtain ⟨ty,lx,cx,e,inf,z,m7,h1,h2,hu,hi,cz,Bx,jt,oo,n6⟩:=Aqb h;have el:=NE (hl ▸ hs lx l' h1);have ec:=NE (hc ▸ hs cx c' h2);have q5:CL B S m zero z.cells.toList:=jN oo;have hzs:z.cells.size=a9:=by rw[<-hz,q5.1];simp
 refine Adj hm s a9 l.toNat c.toNat _ (madeCells z.cells (c.toNat*inf.size)) e (Re n6) D' (by rw[size_madeCells,cz];exact Gc _) (λ x hx=>by rw[(List.mem_replicate.1 hx).2,hz]) (λ i cs v5 j c1 hj => ?_) ?_
 ·rw[List.getElem?_replicate]at v5
  split at v5
  ·rename_i dw
   obtain rfl:zero=cs:=by simpa using v5
   obtain ⟨u,vu,my⟩:=jI q5 hj;refine ⟨u,?_,my⟩;have jy:j<a9:=by rw[<-hz];exact (zS hj).1
   have n7:i*a9+j<c.toNat*inf.size:=by
    rw[cz];have h3:(i+1)*a9<=c.toNat*a9:=zR _ D';rw[Qd]at h3;omega
   have Auv:(i*a9+j)%z.cells.size=j:=by rw[hzs,zg,Qf,Ig jy]
   have Ql:z.cells[j]? = some u:=by simpa using vu
   have hjs:j<z.cells.size:=(jb.1 Ql).1;have yh:z.cells[j]=u:=(jb.1 Ql).2;simp [madeCells,n7,Auv,hjs,yh]
  ·cases v5
 ·have:=run_make (P:=P) m.w ty e inf z hu hi jt kl kc l c h0 wu (by rw[Bx,Int.mul_comm];simp only[H8]at hb;omega) Pg
  simp only[execOp,m7,el,ec,Sem.run_bind,this,Result.andThen_ok,Sem.run_pure]
theorem Amr (hm:DR B S w0 m) (hs:E9 B S m ρ a.eval) {x':BM} {i:Nat} (h:C5 P num o.op (.ext x' i)=true) {vs:d_} {v:AV} (hx:ρ x' = .e9 vs) (hv:vs[i]? = some v):FE B S w0 P o a m (.val v):=by
 obtain ⟨x,m7,h1⟩:=Ap7 h;obtain ⟨us,gv,hl,hc⟩:=wZ (hx ▸ hs x x' h1);have n7:i<us.length:=by rw[<-hl];exact (zS hv).1
 refine HY hm (u:=us[i]) ?_ (.ca (hc i v us[i] hv (zE n7)));simp [execOp,m7,gv,Instr.extract,n7]
theorem AmA (hm:DR B S w0 m) (hs:E9 B S m ρ a.eval) {x':BM} (h:C5 P num o.op (.len x')=true) {n:Nat} (hx:ZI (ρ x')=some n):FE B S w0 P o a m (.val (.int .i64 n)):=by
 obtain ⟨x,t,e,m7,h1,hu⟩:=Aqa h;have dh:=hs x x' h1;obtain ⟨ad,cap,gv⟩ : ∃ ad cap,a.eval x = .slice ad n cap:=by
  generalize ρ x'=av at *;cases av with
  | sl l es =>
   have hr:=rF dh;simp only[ZI,ka]at hx;subst hx;generalize a.eval x=v at *;cases hr with
   | sj=>exact ⟨_,_,rfl⟩
   | sl=>exact ⟨_,_,rfl⟩
  | row s t z off len =>
   obtain ⟨ad,cap,hv,_⟩:=jK dh;simp only[ZI,ka]at hx;subst hx;exact ⟨ad,cap,hv⟩
  | nil =>
   simp only[ZI,ka]at hx;subst hx;exact ⟨_,_,aH dh⟩
  | _=>simp [ZI]at hx
 refine HY hm (u := .int .i64 n) ?_ (ZL _ _);simp [execOp,m7,resolve,invoke,builtin,gv,Builtin.len_,run_underlying hu,goInt]
theorem Amp (hm:DR B S w0 m) (hs:E9 B S m ρ a.eval) {x':BM} (h:C5 P num o.op (.mj x')=true) (hx:ρ x' = .nil):FE B S w0 P o a m (.val (.int .i64 0)):=by
 obtain ⟨x,t,e,m7,h1,hu⟩:=Ap5 h;have gv:=aH (hx ▸ hs x x' h1);refine HY hm (u := .int .i64 0) ?_ (ZL _ _);simp [execOp,m7,resolve,invoke,builtin,gv,Builtin.cap_,run_underlying hu,goInt]
theorem fJ (hs:E9 B S m ρ a.eval) : ∀ {xs:List Operand} {ys:List BM},H4 xs ys=true->xs.length=ys.length /\ ∀ (j:Nat) (x:Operand) (y:BM),xs[j]? = some x->ys[j]? = some y->CV B S m (ρ y) (a.eval x)
 | [],[],_=>⟨rfl,λ j x y h=>by simp at h⟩
 | x::r,y::l,h=>by
  simp only[H4,Sb]at h;obtain ⟨ih1,zw⟩:=fJ hs h.2;refine ⟨by simp [ih1],λ j x' y' hx hy => ?_⟩;cases j with
  | zero=>simp at hx hy;subst hx hy;exact hs _ _ h.1
  | succ j=>exact zw j x' y' (by simpa using hx) (by simpa using hy)
 | [],_::_,h=>by simp [H4]at h
 | _::_,[],h=>by simp [H4]at h
theorem Agp (mx:Bool) (hs:E9 B S m ρ a.eval) (w:World) : ∀ (xs:List Operand) (ys:List BM) (v:AV) (u:Value) (r:AV),H4 xs ys=true->CV B S m v u->SI mx v (ys.map ρ)=some r->(∃ k n,v = .int k n) -> ∃ k n,r = .int k n /\
  ((xs.map a.eval).foldlM (if mx then Builtin.max2 else Builtin.min2) u).run P w = .ok (.int k n) w
 | [],[],v,u,r,_,hc,hm,⟨k,n,hv⟩=>by
  simp only[List.map_nil,SI,ka]at hm;subst hm hv;obtain rfl:=NE hc;exact ⟨k,n,rfl,p_⟩
 | x::xr,y::yr,v,u,r,he,hc,hm,⟨k,n,hv⟩=>by
  simp only[H4,Sb]at he;simp only[Be,SI]at hm;have hx:=hs x y he.1;subst hv;obtain rfl:=NE hc;cases hy:ρ y with
  | int k' n' =>
   rw[hy]at hx hm;have hxe:=NE hx;simp only[ZM]at hm;obtain ⟨k2,n2,rfl,h2⟩:=Agp mx hs w xr yr _ (.int k (if mx then (if n'>n then n' else n) else (if n'<n then n' else n))) r he.2 (ZL _ _) hm ⟨_,_,rfl⟩;refine ⟨k2,n2,rfl,?_⟩;simp only[Be,List.foldlM_cons,Sem.run_bind,hxe];cases mx
   ·simpa [Builtin.min2] using h2
   ·simpa [Builtin.max2] using h2
  | _=>rw[hy]at hm;simp [ZM]at hm
 | [],_::_,_,_,_,he,_,_,_=>by simp [H4]at he
 | _::_,[],_,_,_,he,_,_,_=>by simp [H4]at he
theorem AmF (hm:DR B S w0 m) (hs:E9 B S m ρ a.eval) {mx:Bool} {q7:List BM} (h:C5 P num o.op (.mm mx q7)=true) {v r:AV} {l:d_} (hx:q7.map ρ=v::l) (hv:SI mx v l=some r) (hi : ∃ k n,v = .int k n):FE B S w0 P o a m (.val r):=by
 obtain ⟨xs,ts,m7,he⟩:=AeV h;cases q7 with
 | nil=>simp at hx
 | cons y yr =>
  simp only[Be,Gg]at hx;obtain ⟨rfl,rfl⟩:=hx;obtain ⟨xl⟩:=xs;cases xl with
  | nil=>simp [H4]at he
  | cons x xr =>
   simp only[H4,Sb]at he;obtain ⟨k,n,rfl,w5⟩:=Agp (P:=P) mx hs m.w xr yr (ρ y) (a.eval x) r he.2 (hs x y he.1) hv hi;refine HY hm (u := .int k n) ?_ (ZL _ _);cases mx
   ·simp only[execOp,m7,resolve,invoke,builtin,Builtin.min_,Sem.run_bind,Sem.run_pure,Result.andThen_ok]at w5 ⊢
    simp at w5 ⊢;rw[w5];rfl
   ·simp only[execOp,m7,resolve,invoke,builtin,Builtin.max_,Sem.run_bind,Sem.run_pure,Result.andThen_ok]at w5 ⊢
    simp at w5 ⊢;rw[w5];rfl
end
end Go.j4

namespace Go.j4
open Go.RowKit
section
variable {B:Nat} {S:Nat->Prop} {w0:World} {m:M}
variable {P:Program} {num:Nat->Nat} {o:Oper} {a:Act} {ρ:BM->AV}
def M9 (ρ:BM->AV) (d:Nat):Option BM->Option Int
 | none=>some d
 | some y=>match ρ y with | .int _ n=>some n|_=>none
theorem uB (ty e:TypeId) (inf:TypeInfo) (hu:P.underlying ty=some (.slice e)) (hi:P.info? e=some inf) (hs:E9 B S m ρ a.eval) {lo v5:Option Operand} {zx Sy:Option BM} (zn:W2 lo zx=true) (Wb:W2 v5 Sy=true)
  (ad:Option Addr) (len cap:Nat) (l h:Int) (hl:M9 ρ 0 zx=some l) (hh:M9 ρ len Sy=some h) (h0:0<=l) (hlh:l<=h) (hhl:h<=len) (wu:len<=cap) (w:World) :
  (Instr.sliceAt ty (.slice ad len cap) (lo.map a.eval) (v5.map a.eval) none).run P w = .ok (.slice (if cap=l.toNat then ad else ad.map (·.add (l.toNat*inf.size))) (h.toNat-l.toNat) (cap-l.toNat)) w:=by
 have Gb : ∀ {x:Option Operand} {y:Option BM} {d:Nat} {n:Int},W2 x y=true->M9 ρ d y=some n->(x=none/\y=none/\n=d) \/ ∃ x' k,x=some x'/\a.eval x' = .int k n:=by
  intro x y d n yi hb;cases x with
  | none=>cases y with
   | none=>simp [M9]at hb;exact .inl ⟨rfl,rfl,hb.symm⟩
   | some y=>simp [W2]at yi
  | some x=>cases y with
   | none=>simp [W2]at yi
   | some y =>
    simp only[W2]at yi;simp only[M9]at hb;cases hy:ρ y with
    | int k q =>
     rw[hy]at hb;simp only[ka]at hb;subst hb;exact .inr ⟨x,k,rfl,NE (hy ▸ hs x y yi)⟩
    | _=>rw[hy]at hb;cases hb
 have Jp:h<=(cap:Int):=D'
 unfold Instr.sliceAt Instr.slice Instr.sliceBounds;rcases Gb zn hl with ⟨rfl,_,rfl⟩|⟨x1,k1,rfl,e1⟩<;>rcases Gb Wb hh with ⟨rfl,_,rfl⟩|⟨x2,k2,rfl,e2⟩
 ·simp [run_underlying hu,sizeOf,typeInfo,hi]
 ·have Dk:=run_sliceBound (P:=P) w k2 h cap .sliceAcap D' Jp
  simp [run_underlying hu,sizeOf,typeInfo,hi,e2,Dk]
 ·have ag:=run_sliceBound (P:=P) w k1 l len .sliceB h0 D'
  simp [run_underlying hu,sizeOf,typeInfo,hi,e1,ag]
 ·have Dk:=run_sliceBound (P:=P) w k2 h cap .sliceAcap D' Jp
  have ag:=run_sliceBound (P:=P) w k1 l h.toNat .sliceB h0 D';simp [run_underlying hu,sizeOf,typeInfo,hi,e1,e2,Dk,ag]
theorem AmJ (hm:DR B S w0 m) (hs:E9 B S m ρ a.eval) {a9:Nat} {x':BM} {zx v5:Option BM} (h:C5 P num o.op (.pn a9 x' zx v5)=true) (hx:ρ x' = .nil) (hl:M9 ρ 0 zx=some 0) (hh:M9 ρ 0 v5=some 0):FE B S w0 P o a m (.val .nil):=by
 obtain ⟨ty,x,lo,zm,e,inf,m7,h1,h2,h3,hu,hi,cz,n6⟩:=Yq h;have gv:=aH (hx ▸ hs x x' h1);have w5:=uB ty e inf hu hi hs h2 h3 none 0 0 0 0 hl hh D' D' D' D' m.w;refine HY hm (u := .slice none 0 0) ?_ (.ca (.one .nil));simp only[execOp,m7,gv,Sem.run_bind,oe,w5];rfl
theorem AmK (hm:DR B S w0 m) (hs:E9 B S m ρ a.eval) {a9:Nat} {x':BM} {zx v5:Option BM} (h:C5 P num o.op (.pn a9 x' zx v5)=true) {s t z off len:Nat} {l u:Int} (hx:ρ x' = .row s t z off len) (hl:M9 ρ 0 zx=some l) (hh:M9 ρ len v5=some u) (h0:0<=l) (Wi:l<=u) (yh:u<=len) (hz:z=a9) :
  FE B S w0 P o a m (.val (.row s t z (off+l.toNat) (u.toNat-l.toNat))):=by
 obtain ⟨ty,x,lo,zm,e,inf,m7,h1,h2,h3,hu,hi,cz,n6⟩:=Yq h;obtain ⟨ad,cap,gv,ht,jt,wu,ha,hb⟩:=jK (hx ▸ hs x x' h1);have w5:=uB ty e inf hu hi hs h2 h3 ad len cap l u hl hh h0 Wi yh wu m.w;refine HY hm ?_ (.ca (.one (.row s t z (off+l.toNat) (u.toNat-l.toNat) (if cap=l.toNat then ad else ad.map (·.add (l.toNat*inf.size))) (cap-l.toNat) ht jt D' (λ hp => ?_) λ b m9 => ?_)))
 ·simp only[execOp,m7,gv,Sem.run_bind,oe,w5]
  rfl
 ·rw[if_neg D']
  obtain ⟨Pc,rfl⟩:=ud.1 (ha D');rfl
 ·obtain ⟨Bh,gn⟩:=hb b m9
  refine ⟨Bh,?_⟩;rcases gn with ⟨qz,qf⟩|⟨g,arr,e',hg,ve,Wa,hle⟩
  ·exact .inl ⟨D',D'⟩
  ·by_cases hc:cap=l.toNat
   ·exact .inl ⟨D',D'⟩
   ·refine .inr ⟨g,arr,e',hg,?_,Wa,?_⟩
    ·rw[if_neg hc,ve,cz,hz]
     simp only[Qc,M8,td]
    ·rw[show off+l.toNat+(cap-l.toNat)=off+cap by omega]
     exact hle
theorem AmL (hm:DR B S w0 m) (hs:E9 B S m ρ a.eval) {a9:Nat} {x':BM} {zx v5:Option BM} (h:C5 P num o.op (.pn a9 x' zx v5)=true) {lt:Bool} {es:c_} {l u:Int} (hx:ρ x' = .sl lt es) (hl:M9 ρ 0 zx=some l) (hh:M9 ρ es.length v5=some u) (h0:0<=l) (Wi:l<=u) (yh:u<=es.length) (hz : ∀ e∈es,e.length=a9) :
  FE B S w0 P o a m (.val (.sl lt ((es.take u.toNat).drop l.toNat))):=by
 obtain ⟨ty,x,lo,zm,e,inf,m7,h1,h2,h3,hu,hi,cz,n6⟩:=Yq h;have tk:=rF (hx ▸ hs x x' h1);generalize gv:a.eval x=v at tk;cases tk with
 | sj _ ad cap =>
  have w5:=uB ty e inf hu hi hs h2 h3 ad 0 cap l u hl hh h0 Wi (by simpa using yh) D' m.w;simp only[List.length_nil]at yh;rw[show (([]:c_).take u.toNat).drop l.toNat=[] by simp];refine HY hm (u := .slice (if cap=l.toNat then ad else ad.map (·.add (l.toNat*inf.size))) 0 (cap-l.toNat)) ?_ (.ca (.one (.rd (.sj lt _ _))));simp only[execOp,m7,gv,Sem.run_bind,oe,w5];rw[show u.toNat-l.toNat=0 by omega];rfl
 | sl _ _ b ob cj cap uu Ed hp hR fk oo hc hr =>
  have w5:=uB ty e inf hu hi hs h2 h3 (some ⟨b,ob,none⟩) es.length cap l u hl hh h0 Wi yh fk m.w;have Ve:cj=a9:=by
   cases es with
   | nil=>exact absurd rfl Ed
   | cons q r=>rw[<-oo q p_,hz q p_]
  subst Ve;by_cases jt:u.toNat-l.toNat=0
  ·have:(es.take u.toNat).drop l.toNat=[]:=by
    apply zc;simp;omega
   rw[this];refine HY hm (u := .slice (if cap=l.toNat then some ⟨b,ob,none⟩ else (some (⟨b,ob,none⟩:Addr)).map (·.add (l.toNat*inf.size))) 0 (cap-l.toNat)) ?_ (.ca (.one (.rd (Rd.sj lt _ _))));simp only[execOp,m7,gv,Sem.run_bind,oe,w5];rw[jt];rfl
  ·have hlen:((es.take u.toNat).drop l.toNat).length=u.toNat-l.toNat:=by simp;omega
   have u6 : ∀ i,i<u.toNat-l.toNat->((es.take u.toNat).drop l.toNat)[i]? = es[l.toNat+i]? := λ i v5=>by
    rw[fc,yc,if_pos D']
   refine HY hm (u := .slice (some ⟨b,ob+l.toNat*cj,none⟩) ((es.take u.toNat).drop l.toNat).length (cap-l.toNat)) ?_ (.ca (.one (.rd (.sl lt _ b (ob+l.toNat*cj) cj (cap-l.toNat) (λ i j=>uu (l.toNat+i) j) (λ e=>jt (by rw[<-hlen,e];rfl)) hp hR (by rw[hlen];omega) (λ q hq=>oo q (ie (vg hq))) (λ i q v5 j c hj => ?_) (λ i q v5 j c hj => ?_)))))
   ·simp only[execOp,m7,gv,Sem.run_bind,oe,w5]
    rw[if_neg D',hlen,cz];simp only[Qc,M8];rfl
   ·have dw:i<u.toNat-l.toNat:=by rw[<-hlen];exact (zS v5).1
    rw[u6 i dw]at v5;rw[show ob+l.toNat*cj+(i*cj+j)=ob+((l.toNat+i)*cj+j) by rw[td];omega];exact hc _ q v5 j c hj
   ·have dw:i<u.toNat-l.toNat:=by rw[<-hlen];exact (zS v5).1
    rw[u6 i dw]at v5;exact hr _ q v5 j c hj
structure lG (B:Nat) (S:Nat->Prop) (m:M) (a9:Nat) (ys:c_) (ad:Option Addr) (news:List Value):Prop where
 len:news.length=ys.length*a9
 cells : ∀ b,ad=some b -> ∀ j v,news[j]? = some v->m.w.cell? (b.add j)=some v
 some_:ys≠[]->ad.isSome=true
 rel : ∀ i cs,ys[i]? = some cs -> ∀ j c,cs[j]? = some c -> ∃ u,news[i*a9+j]? = some u/\CC B S m c u
theorem Al4 (a9 i j:Nat) (h:j<a9):(i*a9+j)/a9=i/\(i*a9+j)%a9=j:=by
 constructor
 ·rw[zg,Nat.add_mul_div_right _ _ D',Nat.div_eq_of_lt h,Sd]
 ·rw[zg,Qf,Ig h]
theorem yA (hm:DR B S w0 m) {av:AV} {v:Value} (hc:CV B S m av v) {ys:c_} (he:IU m.own av=some ys) {a9:Nat} (hz : ∀ e∈ys,e.length=a9) (h0:0<a9) :
  ∃ ad cap news,v = .slice ad ys.length cap/\lG B S m a9 ys ad news:=by
 cases av with
 | sl l es =>
  simp only[IU,ka]at he;subst he;cases rF hc with
  | sj _ ad cap=>exact ⟨ad,cap,[],rfl,p_,λ b _ j v hv=>by simp at hv,λ h=>absurd rfl h,λ i cs hi=>by simp at hi⟩
  | sl _ _ b ob cj cap uu Ed hp hR fk oo q5 hr =>
   have Ve:cj=a9:=by
    cases es with
    | nil=>exact absurd rfl Ed
    | cons q r=>rw[<-oo q p_,hz q p_]
   subst Ve;refine ⟨some ⟨b,ob,none⟩,cap,(Ge (es.length*cj)).map (λ k=>uu (k/cj) (k%cj)),rfl,p_,λ b' m9 j v hv => ?_,λ_=>rfl,λ i cs hi j c hj => ?_⟩
   ·obtain rfl:(⟨b,ob,none⟩:Addr)=b':=by simpa using m9
    rw[Fb]at hv;have jy:j<es.length*cj:=by
     rcases Bf j (es.length*cj) with h|h
     ·exact h
     ·rw[List.getElem?_eq_none (by simpa using h)]at hv;cases hv
    rw[De jy]at hv;simp only[Qc,ka]at hv;subst hv;have hd:j/cj<es.length:=ig (by rw[pf];exact jy);have hmo:j%cj<cj:=fh _ h0;have lg:(es[j/cj]).length=cj:=oo _ (ue hd);have:=q5 (j/cj) _ (zE hd) (j%cj) _ (zE (by rw[lg];exact hmo))
    rw[M8,<-this];congr 2;have:=Bg j cj
    rw[pf]at this;omega
   ·have jy:j<cj:=by rw[<-oo cs (zM hi)];exact (zS hj).1
    have dw:i<es.length:=(zS hi).1;have n7:i*cj+j<es.length*cj:=by
     have:(i+1)*cj<=es.length*cj:=zR _ dw
     rw[Qd]at this;omega
    obtain ⟨e1,e2⟩:=Al4 cj i j jy;refine ⟨uu i j,?_,.rd (hr i cs hi j c hj)⟩;rw[Fb,De n7];simp [e1,e2]
 | nil =>
  simp only[IU,ka]at he;subst he;exact ⟨none,0,[],aH hc,p_,λ b hb=>(by cases hb),λ h=>absurd rfl h,λ i cs hi=>by simp at hi⟩
 | row s t z off len =>
  obtain ⟨ad,cap,hv,ht,jt,wu,ha,hb⟩:=jK hc;simp only[IU]at he;cases u6:m.own.get s t with
  | none=>simp [u6]at he
  | some b =>
   simp only[u6]at he;split at he
   ·rename_i hle
    obtain ⟨hle,Bh⟩:=hle;obtain rfl:=Eb he;have Aq:((b.es.drop off).take len).length=len:=by simp;omega
    obtain ⟨_,gn⟩:=hb b u6;by_cases qz:len=0
    ·subst qz
     refine ⟨ad,cap,[],by simpa using hv,p_,λ b _ j v hv=>by simp at hv,λ h=>absurd p_ h,λ i cs hi=>by simp at hi⟩
    ·rcases gn with ⟨h1,_⟩|⟨g,arr,e',hg,ve,Wa,ANx⟩
     ·exact absurd h1 qz
     ·obtain ⟨oo,ko⟩:=hm.g8 s t b u6
      rw[hg]at ko;obtain ⟨hB,Dd,e2,Jt,fe⟩:=ko;rw[Wa]at Jt;obtain ⟨rfl,rfl⟩:arr=Dd/\e'=e2:=by simpa using Jt
      have hez:a9=z:=by
       have n7:off<b.es.length:=D'
       have h1:b.es[off]∈(b.es.drop off).take len:=by
        have:((b.es.drop off).take len)[0]? = some b.es[off]:=by
         rw[yc,if_pos D',fc];simp [n7]
        exact zM this
       rw[<-hz _ h1,oo _ (ue n7),Bh]
      subst hez;have cz:off*a9+len*a9<=arr.size:=by
       have:(off+len)*a9<=(off+cap)*a9:=zR _ D'
       rw[td]at this;omega
      refine ⟨ad,cap,(arr.toList.drop (off*a9)).take (len*a9),by rw[Aq];exact hv,by rw[Aq];simp;omega,λ b' m9 j v xd => ?_,λ_=>by rw[ve];rfl,λ i cs hi j c hj => ?_⟩
      ·rw[ve]at m9
       obtain rfl:(⟨g,off*a9,none⟩:Addr)=b':=by simpa using m9
       rw[yc]at xd;split at xd
       ·rw[fc]at xd
        rw[M8,qT Wa];simpa using xd
       ·cases xd
      ·rw[yc]at hi
       split at hi
       ·rename_i dw
        rw[fc]at hi;have jy:j<a9:=by rw[<-Bh,<-oo cs (zM hi)];exact (zS hj).1
        obtain ⟨u,hu,my⟩:=fe (off+i) cs hi j c hj;refine ⟨u,?_,my⟩;have n7:i*a9+j<len*a9:=by
         have:(i+1)*a9<=len*a9:=zR _ dw
         rw[Qd]at this;omega
        rw[yc,if_pos n7,fc,<-hu,Bh];simp only[ze];congr 1;rw[td];omega
       ·cases hi
   ·cases he
 | iz v' =>
  cases v' with
  | bool b =>
   simp only[IU,ka]at he;subst he;obtain ⟨ad,cap,hv,_⟩:=AcZ hc;exact ⟨ad,cap,[],hv,p_,λ b' m9 j v xd=>by simp at xd,λ h=>absurd rfl h,λ i cs hi=>by simp at hi⟩
  | _=>simp [IU]at he
 | _=>simp [IU]at he
theorem lG.one {a9:Nat} {ys:c_} {ad:Option Addr} {news:List Value} (h:lG B S m a9 ys ad news) (h0:0<a9) (hz : ∀ e∈ys,e.length=a9) : ∀ u∈news,u.oneCell'=true:=by
 intro u hu;obtain ⟨k,hk,rfl⟩:=Tg hu;rw[h.len]at hk;have hd:k/a9<ys.length:=ig (by rw[pf];exact hk);have hmo:k%a9<a9:=fh _ h0;have lg:(ys[k/a9]).length=a9:=hz _ (ue hd);obtain ⟨u',vu,hc⟩:=h.rel (k/a9) _ (zE hd) (k%a9) _ (zE (by rw[lg];exact hmo));have na:k/a9*a9+k%a9=k:=by
  have:=Bg k a9
  rw[pf]at this;exact this
 rw[na]at vu;obtain rfl:news[k]=u':=by
  have:=(zS vu).2
  exact this
 exact hc.one
theorem lG.src {a9:Nat} {ys:c_} {ad:Option Addr} {news:List Value} (h:lG B S m a9 ys ad news) (h0:0<a9) (hz : ∀ e∈ys,e.length=a9) {t e:TypeId} (hu:P.underlying t=some (.slice e)) (cap:Nat):Src P a9 t (.slice ad ys.length cap) ys.length news m.w:=by
 cases ad with
 | none =>
  have Et:ys=[]:=by
   cases ys with
   | nil=>rfl
   | cons y r=>exact absurd (h.some_ p_) p_
  subst Et;have hn:news=[]:=zc (by simpa using h.len);subst hn;exact Src.ofNil m.w hu cap
 | some b=>exact Src.ofSlice m.w hu b ys.length cap news h.len (h.cells b rfl) (h.one h0 hz)
theorem Aq2 (arr:Array Value) (off:Nat) (news:List Value) (h:off+news.length<=arr.size) (p:Nat):(arr.toList.take off++news++arr.toList.drop (off+news.length)).toArray[p]? = if p<off then arr[p]? else if p<off+news.length then news[p-off]? else arr[p]? := by
 simp only[yg];rw[Abn _ _ _ (by simpa using h)];simp only[ze]
theorem ArN (t tx e ex:TypeId) (i:TypeInfo) (ht:P.underlying t=some (.slice e)) (hx:P.underlying tx=some (.slice ex)) (hi:P.info? e=some i) (g off Ax Ck:Nat) (x:Value) (n:Nat) (news:List Value) (w:World) (hs:Src P i.size tx x n news w) (pe:Ax+n<=Ck) (arr:Array Value) (e':TypeId)
  (hh:w.heap[g]? = some (.cells arr e' (0,0))) (cz:off+Ax*i.size+news.length<=arr.size) (ty:TypeId) :
  (Builtin.append_ #[t,tx] ty #[.slice (some ⟨g,off,none⟩) Ax Ck,x]).run P w = .ok (.slice (some ⟨g,off,none⟩) (Ax+n) Ck) (w.setRow g (arr.toList.take (off+Ax*i.size)++news++arr.toList.drop (off+Ax*i.size+news.length)).toArray):=by
 have m4:=run_storeCells_at (P:=P) g (off+Ax*i.size) e' news 0 arr w hh D' hs.one;simp only[Af]at m4;simp [Builtin.append_,run_underlying ht,run_underlying hx,sizeOf,typeInfo,hi,hs.len,pe,hs.cells,M8,m4]
theorem Agl (t tx e ex:TypeId) (i:TypeInfo) (ht:P.underlying t=some (.slice e)) (hx:P.underlying tx=some (.slice ex)) (hi:P.info? e=some i) (ad:Option Addr) (Ck:Nat) (x:Value) (w:World) (hs:Src P i.size tx x 0 [] w) (ty:TypeId) :
  (Builtin.append_ #[t,tx] ty #[.slice ad 0 Ck,x]).run P w = .ok (.slice ad 0 Ck) w:=by
 have hc:=hs.cells;cases ad<;>simp [Builtin.append_,run_underlying ht,run_underlying hx,sizeOf,typeInfo,hi,hs.len,hc,storeCells]
theorem kS {x y:Operand} {t tx:TypeId} (m7:o.op = .call ⟨.builtin .append,#[x,y],#[t,tx]⟩) {u:Value} {w w':World} (h:(Builtin.append_ #[t,tx] o.type #[a.eval x,a.eval y]).run P w = .ok u w'):(execOp a.eval o).run P w = .ok (.value u) w':=by
 simp [execOp,m7,resolve,invoke,builtin,h]
theorem Apg (jx news:List Value) (z:Array Value) (k p:Nat) (h:p<jx.length+news.length):((jx++news).toArray++Builtin.zeroCells z k)[p]? = (jx++news)[p]? := by
 rw[Se (by simpa using h)];simp
theorem ArJ {a9 len:Nat} {xs ys:c_} {jx news:List Value} (Km:xs.length=len) (Nr:jx.length=len*a9) (hzx : ∀ e∈xs,e.length=a9)
  (hx : ∀ i cs,xs[i]? = some cs -> ∀ j c,cs[j]? = some c -> ∃ u,jx[i*a9+j]? = some u/\CC B S m c u)
  (hy : ∀ i cs,ys[i]? = some cs -> ∀ j c,cs[j]? = some c -> ∃ u,news[i*a9+j]? = some u/\CC B S m c u) :
  ∀ i cs,(xs++ys)[i]? = some cs -> ∀ j c,cs[j]? = some c -> ∃ u,(jx++news)[i*a9+j]? = some u/\CC B S m c u:=by
 intro i cs hi j c hj;by_cases dw:i<len
 ·rw[Vc D']at hi
  obtain ⟨u,hu,hc⟩:=hx i cs hi j c hj;exact ⟨u,by rw[Vc (by have:=(zS hu).1;omega)];exact hu,hc⟩
 ·rw[Cc D',Km]at hi
  obtain ⟨u,hu,hc⟩:=hy (i-len) cs hi j c hj;refine ⟨u,?_,hc⟩;have e1:i*a9=len*a9+(i-len)*a9:=by rw[<-td];congr 1;omega
  rw[Cc D',<-hu];congr 1;omega
theorem Afv {s z n cap:Nat} {es:c_} {w':World} {g t:Nat} {arr:Array Value} {e:TypeId} (hz:0<z) (hn:n<=cap) (hg:w'.heap[g]? = some (.cells arr e (0,0))) (hc:cap*z<=arr.size) :
  CV B S ⟨k6 m s (some g),m.own.put s (((m.own s).v9 t none).new ⟨z,es⟩),w'⟩ (.row s (m.own.j8 s) z 0 n) (.slice (some ⟨g,0,none⟩) n cap):=by
 refine .ca (.one (.row s (m.own.j8 s) z 0 n _ cap ?_ hz hn (λ_=>rfl) λ b' m9=>⟨?_,.inr ⟨g,arr,e,?_,p_,hg,by simpa using hc⟩⟩))
 ·show _<BF.j8 _ s
  rw[qZ];simp
 ·change BF.get _ s _=some b' at m9
  rw[fX,if_pos ⟨rfl,rfl⟩]at m9;obtain rfl:(⟨z,es⟩:HU)=b':=by simpa using m9
  rfl
 ·simp [k6]
theorem AkI (hm:DR B S w0 m) (ob:Obj):Below B w0 (m.w.drew.alloc ob):=hm.below.drew.alloc (by simpa using hm.size) ob
theorem Amc (hm:DR B S w0 m) (hs:E9 B S m ρ a.eval) {s a9 bytes:Nat} {x' y':BM} (h:C5 P num o.op (.app s a9 bytes x' y')=true) {ys:c_} (hy:IU m.own (ρ y')=some ys) (hz : ∀ e∈ys,e.length=a9) {s' t len:Nat} {b:HU} (hx:ρ x' = .row s' t a9 0 len) (u6:m.own.get s' t=some b)
  (Bh:b.a9=a9) (hle:len<=b.es.length) (pe:(len+ys.length)*bytes<=H8) (Pg:len+ys.length<=9223372036854775807) :
  FE B S w0 P o a m (.kb (.row s' (m.own.j8 s') a9 0 (len+ys.length)) (m.own.put s' (((m.own s').v9 t none).new ⟨a9,b.es.take len++ys⟩))):=by
 obtain ⟨x,y,ty,e,i,z,tx,ex,m7,h1,h2,hu,hi,cz,Bx,jt,oo,n6,Kl⟩:=AeS h;have h0:0<a9:=Re n6;obtain ⟨ad,cap,gv,ht,_,wu,ha,hb⟩:=jK (hx ▸ hs x x' h1);obtain ⟨Kz,tp,news,Gi,lg⟩:=yA hm (hs y y' h2) hy hz h0;have Cf:Src P i.size tx (.slice Kz ys.length tp) ys.length news m.w:=by rw[cz];exact lg.src h0 hz Kl tp
 obtain ⟨Ab,ko⟩:=hm.g8 s' t b u6;obtain ⟨_,gn⟩:=hb b u6;have gp:(b.es.take len).length=len:=by simp;omega
 have Kn : ∀ q∈b.es.take len++ys,q.length=a9:=λ q hq=>by
  rcases Oc.1 hq with hq|hq
  ·rw[<-Bh];exact Ab q (ie hq)
  ·exact hz q hq
 intro K Q hK;by_cases Dp:len+ys.length<=cap
 ·rcases gn with ⟨qz,qf⟩|⟨g,arr,e',hg,ve,hh,hcz⟩
  ·have Et:ys=[]:=zc D'
   subst Et;subst qz qf;have Ic:news=[]:=zc (by simpa using lg.len);subst Ic;have w5:=Agl ty tx e ex i hu Kl hi ad 0 (.slice Kz 0 tp) m.w (by simpa using Cf) o.type;obtain ⟨k1,k2⟩:=Xj hm s' t b ⟨a9,b.es.take 0++[]⟩ u6 none m.w hm.below (Gc _) (λ_ _ _=>rfl) p_ p_ p_;refine YO (kS m7 (by rw[gv,Gi];simpa using w5)) (hK _ ⟨k6 m s' none,m.own.put s' (((m.own s').v9 t none).new ⟨a9,b.es.take 0++[]⟩),m.w⟩ rfl k1 k2 (.ca (.one (.row s' (m.own.j8 s') a9 0 0 ad 0 ?_ h0 (Gc _) (λ h=>D') λ b' m9=>⟨?_,.inl ⟨rfl,rfl⟩⟩))))
   ·show _<BF.j8 _ s'
    rw[qZ];simp
   ·change BF.get _ s' _=some b' at m9
    rw[fX,if_pos ⟨rfl,rfl⟩]at m9;obtain rfl:(⟨a9,b.es.take 0++[]⟩:HU)=b':=by simpa using m9
    rfl
  ·have Lx:ad=some ⟨g,0,none⟩:=by simpa using ve
   rw[hg]at ko;obtain ⟨hB,Dd,e2,Jt,fe⟩:=ko;rw[hh]at Jt;obtain ⟨rfl,rfl⟩:arr=Dd/\e'=e2:=by simpa using Jt
   have Nm:news.length=ys.length*a9:=lg.len;have hbound:len*a9+news.length<=arr.size:=by
    have:(len+ys.length)*a9<=(0+cap)*a9:=zR _ D'
    rw[td]at this;omega
   have w5:=ArN ty tx e ex i hu Kl hi g 0 len cap (.slice Kz ys.length tp) ys.length news m.w Cf Dp arr e' hh (by rw[cz];omega) o.type;rw[cz,Sd]at w5;generalize xx:(arr.toList.take (len*a9)++news++arr.toList.drop (len*a9+news.length)).toArray=cg at w5;have lq : ∀ p,cg[p]? = if p<len*a9 then arr[p]? else if p<len*a9+news.length then news[p-len*a9]? else arr[p]? := λ p=>by rw[<-xx];exact Aq2 arr (len*a9) news hbound p
   have Al:cg.size=arr.size:=by rw[<-xx];simp;omega
   obtain ⟨k1,k2⟩:=Xj hm s' t b ⟨a9,b.es.take len++ys⟩ u6 (some g) (m.w.setRow g cg) (Acq hm hB cg) p_ (λ k _ Ed=>setRow_other _ _ _ _ (λ e=>Ed (e ▸ hg))) Kn p_ (λ g' ta=>by
    obtain rfl:g=g':=by simpa using ta
    refine ⟨hB,.inr hg,cg,e',setRow_heap _ _ _ _ _ _ hh,λ i' cs v5 j c hj => ?_⟩;show ∃ u,cg[i'*a9+j]? = some u/\_;by_cases dw:i'<len
    ·rw[Vc D',yc,if_pos dw]at v5
     have jy:j<a9:=by rw[<-Bh,<-Ab cs (zM v5)];exact (zS hj).1
     obtain ⟨u,vu,my⟩:=fe i' cs v5 j c hj;refine ⟨u,?_,my⟩;have:(i'+1)*a9<=len*a9:=zR _ dw
     rw[Qd]at this;rw[lq,if_pos D',<-vu,Bh]
    ·rw[Cc D',gp]at v5
     obtain ⟨u,vu,my⟩:=lg.rel (i'-len) cs v5 j c hj;refine ⟨u,?_,my⟩;have yh:=(zS vu).1;have e1:i'*a9=len*a9+(i'-len)*a9:=by rw[<-td];congr 1;omega
     rw[lq,if_neg D',if_pos D',<-vu];congr 1;omega)
   exact YO (kS m7 (by rw[gv,Gi,Lx];exact w5)) (hK _ ⟨k6 m s' (some g),m.own.put s' (((m.own s').v9 t none).new ⟨a9,b.es.take len++ys⟩),m.w.setRow g cg⟩ rfl k1 k2 (Afv h0 Dp (setRow_heap _ _ _ _ _ _ hh) (by rw[Al];simpa using hcz)))
 ·have Js:cap<len+ys.length:=D'
  obtain ⟨jx,Nr,hold,AuM⟩ : ∃ jx:List Value,jx.length=len*a9/\(Builtin.firstCells i.size len (.slice ad len cap)).run P m.w.drew = .ok jx.toArray m.w.drew/\(∀ i' cs,(b.es.take len)[i']? = some cs -> ∀ j c,cs[j]? = some c -> ∃ u,jx[i'*a9+j]? = some u/\CC B S m c u):=by
   rcases gn with ⟨qz,qf⟩|⟨g,arr,e',hg,ve,hh,hcz⟩
   ·subst qz
    refine ⟨[],p_,?_,λ i' cs v5=>by simp at v5⟩;cases ad with
    | none=>exact run_firstCells_none m.w.drew i.size 0 0 cap
    | some Pc=>exact run_firstCells_some m.w.drew i.size 0 Pc 0 cap [] p_ (λ j v hv=>by simp at hv)
   ·have Lx:ad=some ⟨g,0,none⟩:=by simpa using ve
    rw[hg]at ko;obtain ⟨hB,Dd,e2,Jt,fe⟩:=ko;rw[hh]at Jt;obtain ⟨rfl,rfl⟩:arr=Dd/\e'=e2:=by simpa using Jt
    have q5:len*a9<=arr.size:=by
     have:len*a9<=(0+cap)*a9:=zR _ D'
     omega
    refine ⟨arr.toList.take (len*a9),by simp;omega,?_,λ i' cs v5 j c hj => ?_⟩
    ·rw[Lx]
     refine run_firstCells_some m.w.drew i.size len ⟨g,0,none⟩ len cap _ (by rw[cz];simp;omega) (λ j v hv => ?_);rw[yc]at hv;split at hv
     ·rw[M8,qT (w:=m.w.drew) (show m.w.heap[g]? = _ from hh)]
      simpa using hv
     ·cases hv
    ·rw[yc]at v5
     split at v5
     ·rename_i dw
      have jy:j<a9:=by rw[<-Bh,<-Ab cs (zM v5)];exact (zS hj).1
      obtain ⟨u,vu,my⟩:=fe i' cs v5 j c hj;refine ⟨u,?_,my⟩;have:(i'+1)*a9<=len*a9:=zR _ dw
      rw[Qd]at this;rw[yc,if_pos D',<-vu,Bh];simp
     ·cases v5
  have w5:=run_append_grow_src (P:=P) m.w ty tx o.type e i z hu hi jt ad len cap jx hold (.slice Kz ys.length tp) ys.length news Cf Js D' (growslice_fits Js (by rw[Bx];exact pe));have Nm:news.length=ys.length*a9:=lg.len;have fk:len+ys.length<=grownCap m.w (len+ys.length) cap e:=grownCap_ge _ _ _ _;generalize Sw:grownCap m.w (len+ys.length) cap e=gc at w5 fk;have qt:=AkI hm (.cells ((jx++news).toArray++Builtin.zeroCells z.cells (gc-(len+ys.length))) e);have vm:(m.w.drew.alloc (.cells ((jx++news).toArray++Builtin.zeroCells z.cells (gc-(len+ys.length))) e)).heap[m.w.heap.size]? = some (.cells ((jx++news).toArray++Builtin.zeroCells z.cells (gc-(len+ys.length))) e (0,0)):=heap_alloc_new m.w.drew _;obtain ⟨k1,k2⟩:=Xj hm s' t b ⟨a9,b.es.take len++ys⟩ u6 (some m.w.heap.size) _ qt p_ (λ k hk _=>Below.heap_alloc m.w.drew _ k hk) Kn p_ (λ g' ta=>by
   obtain rfl:m.w.heap.size=g':=by simpa using ta
   refine ⟨hm.size,.inl (Gc _),_,e,vm,λ i' cs v5 j c hj => ?_⟩;obtain ⟨u,vu,my⟩:=ArJ gp Nr (λ q hq=>by rw[<-Bh];exact Ab q (ie hq)) AuM lg.rel i' cs v5 j c hj;refine ⟨u,?_,my⟩;rw[Apg _ _ _ _ _ (by have:=(zS vu).1;simpa using this)];exact vu)
  refine YO (kS m7 (by rw[gv,Gi];exact w5)) (hK _ ⟨k6 m s' (some m.w.heap.size),m.own.put s' (((m.own s').v9 t none).new ⟨a9,b.es.take len++ys⟩),_⟩ rfl k1 k2 (Afv h0 fk vm ?_));have Ko:(Builtin.zeroCells z.cells (gc-(len+ys.length))).size=(gc-(len+ys.length))*a9:=by simp [Builtin.zeroCells,oo]
  rw[yf,Ko];simp only[Lg,List.length_append,Nr,Nm];rw[<-td,<-td];exact zR _ D'
theorem Amb (hm:DR B S w0 m) (hs:E9 B S m ρ a.eval) {s a9 bytes:Nat} {x' y':BM} (h:C5 P num o.op (.app s a9 bytes x' y')=true) {ys:c_} (hy:IU m.own (ρ y')=some ys) (hz : ∀ e∈ys,e.length=a9) (hx:ρ x' = .nil)
  (pe:ys.length*bytes<=H8) (Pg:ys.length<=9223372036854775807) :
  FE B S w0 P o a m (.kb (.row s (m.own.j8 s) a9 0 ys.length) (m.own.put s ((m.own s).new ⟨a9,ys⟩))):=by
 obtain ⟨x,y,ty,e,i,z,tx,ex,m7,h1,h2,hu,hi,cz,Bx,jt,oo,n6,Kl⟩:=AeS h;have h0:0<a9:=Re n6;have gv:=aH (hx ▸ hs x x' h1);obtain ⟨Kz,tp,news,Gi,lg⟩:=yA hm (hs y y' h2) hy hz h0;have Cf:Src P i.size tx (.slice Kz ys.length tp) ys.length news m.w:=by rw[cz];exact lg.src h0 hz Kl tp
 intro K Q hK;by_cases Et:ys=[]
 ·subst Et
  have Ic:news=[]:=zc (by simpa using lg.len);subst Ic;have w5:=Agl ty tx e ex i hu Kl hi none 0 (.slice Kz 0 tp) m.w (by simpa using Cf) o.type;obtain ⟨k1,k2⟩:=Ahs hm s a9;refine YO (kS m7 (by rw[gv,Gi];simpa using w5)) (hK _ ⟨k6 m s none,m.own.put s ((m.own s).new ⟨a9,[]⟩),m.w⟩ rfl k1 k2 (.ca (.one (.row s (m.own.j8 s) a9 0 0 none 0 ?_ h0 (Gc _) (λ h=>D') λ b' m9=>⟨?_,.inl ⟨rfl,rfl⟩⟩))))
  ·show _<BF.j8 _ s
   rw[V0];simp
  ·change BF.get _ s _=some b' at m9
   rw[K2,if_pos ⟨rfl,rfl⟩]at m9;obtain rfl:(⟨a9,[]⟩:HU)=b':=by simpa using m9
   rfl
 ·have Ef:0<ys.length:=List.length_pos_iff.2 Et
  have w5:=run_append_grow_src (P:=P) m.w ty tx o.type e i z hu hi jt none 0 0 [] (run_firstCells_none m.w.drew i.size 0 0 0) (.slice Kz ys.length tp) ys.length news Cf D' D' (growslice_fits D' (by rw[Bx,Sd];exact pe));simp only[Sd,List.nil_append]at w5;have Nm:news.length=ys.length*a9:=lg.len;have fk:ys.length<=grownCap m.w ys.length 0 e:=grownCap_ge _ _ _ _;generalize Sw:grownCap m.w ys.length 0 e=gc at w5 fk;have hd:Below m.w.heap.size m.w m.w.drew:=(Below.refl _ _).drew;obtain ⟨ti,Mp⟩:=grow hm hd;obtain ⟨k1,k2⟩:=qM ti s ⟨a9,ys⟩ (news.toArray++Builtin.zeroCells z.cells (gc-ys.length)) e hz (λ i' cs v5 j c hj=>by
   obtain ⟨u,vu,my⟩:=lg.rel i' cs v5 j c hj;refine ⟨u,?_,Mp.cc my⟩;have yh:=(zS vu).1;show (news.toArray++Builtin.zeroCells z.cells (gc-ys.length))[i'*a9+j]? = some u;rw[Se (by simpa using yh)];simpa using vu)
  have Ko:(Builtin.zeroCells z.cells (gc-ys.length)).size=(gc-ys.length)*a9:=by simp [Builtin.zeroCells,oo]
  refine YO (kS m7 (by rw[gv,Gi];exact w5)) (hK _ ⟨k6 ⟨m.ν,m.own,m.w.drew⟩ s (some m.w.drew.heap.size),m.own.put s ((m.own s).new ⟨a9,ys⟩),_⟩ rfl k1 (Mp.trans k2) (Xo (m:=⟨m.ν,m.own,m.w.drew⟩) h0 fk (heap_alloc_new m.w.drew _) ?_));rw[yf,Ko];simp only[Lg,Nm];rw[<-td];exact zR _ D'
theorem ArO (w:World) (t tx ty e:TypeId) (i:TypeInfo) (z:Value) (ht:P.underlying t=some (.slice e)) {k:IntKind} (hk:P.underlying tx=some (.int k)) (hi:P.info? e=some i) (hz:i.zero=some z) (k':IntKind) (n:Nat)
  (hn:0<n) (Pg:(n:Int)<=9223372036854775807) (h48:n*i.bytes<=H8) (n6:i.size≠0) :
  (Builtin.append_ #[t,tx] ty #[.slice none 0 0,.int k' n]).run P w =
   .ok (.slice (some ⟨w.heap.size,0,none⟩) n (grownCap w n 0 e))
    (w.drew.alloc (.cells (Builtin.zeroCells z.cells n++Builtin.zeroCells z.cells (grownCap w n 0 e-n)) e)):=by
 have Dp:=growslice_fits (old:=0) (need:=n) (bytes:=i.bytes) hn h48;have h1 : ¬ (n:Int)<0:=D'
 have h2 : ¬ n=0:=D'
 have h3 : ¬ (9223372036854775807<(n:Int)):=D'
 have h5 : ¬ (281474976710656<Builtin.nextslicecap n 0*i.bytes):=D'
 have h6 : ¬ ((281474976710656:Int)<(n:Int)*(i.bytes:Int)):=by
  have Atp:n*i.bytes<=140737488355328:=h48;have h7:=lh.2 Atp;rw[vh]at h7;omega
 have hA : ∀ w':World,(asIntOf (.int k' n)).run P w' = .ok (k',(n:Int)) w':=λ w'=>rfl
 have e1:IntKind.i64.wrap (n:Int)=n:=by rw[IntKind.wrap_i64];omega
 generalize hw:IntKind.i64.wrap (n:Int)=q at e1;subst e1;simp [Builtin.append_,run_underlying ht,run_underlying hk,sizeOf,typeInfo,zeroValue,hi,hz,asInt,hA,hw,h1,h2,h3,h5,h6,n6,Question.forced,Builtin.firstCells,newRow,grownCap];intro h;rcases Nat.mul_eq_zero.1 h with h|h
 ·exact absurd h h2
 ·exact absurd h n6
theorem Amd (hm:DR B S w0 m) (hs:E9 B S m ρ a.eval) {s a9 bytes:Nat} {x' y':BM} (h:C5 P num o.op (.yx s a9 bytes x' y')=true) (hx:ρ x' = .nil) {k':IntKind} {n:Int} (hy:ρ y' = .int k' n)
  (hn:0<n) (pe:n*bytes<=H8) (Pg:n<=9223372036854775807) :
  FE B S w0 P o a m (.new s ⟨a9,[]⟩ (λ t => .row s t a9 0 n.toNat)):=by
 obtain ⟨x,y,ty,e,i,z,tx,k,m7,h1,h2,hu,hi,cz,Bx,jt,oo,n6,Kl⟩:=ApV h;have h0:0<a9:=Re n6;have gv:=aH (hx ▸ hs x x' h1);have hey:=NE (hy ▸ hs y y' h2);obtain ⟨q,rfl⟩ : ∃ q:Nat,n=q:=⟨n.toNat,D'⟩;simp only[Int.toNat_natCast];intro K Q hK;have w5:=ArO (P:=P) m.w ty tx o.type e i z hu Kl hi jt k' q D' Pg (by
  rw[Bx];rw[<-vh]at pe;exact lh.1 pe) (by rw[cz];exact n6)
 have fk:q<=grownCap m.w q 0 e:=grownCap_ge _ _ _ _;generalize Sw:grownCap m.w q 0 e=gc at w5 fk;have hd:Below m.w.heap.size m.w m.w.drew:=(Below.refl _ _).drew;obtain ⟨ti,Mp⟩:=grow hm hd;obtain ⟨k1,k2⟩:=qM ti s ⟨a9,[]⟩ (Builtin.zeroCells z.cells q++Builtin.zeroCells z.cells (gc-q)) e p_ (λ i' cs v5 j c hj=>by simp at v5);have Ko : ∀ n,(Builtin.zeroCells z.cells n).size=n*a9:=λ n=>by simp [Builtin.zeroCells,oo]
 refine YO (kS m7 (by rw[gv,hey];exact w5)) (hK _ ⟨k6 ⟨m.ν,m.own,m.w.drew⟩ s (some m.w.drew.heap.size),m.own.put s ((m.own s).new ⟨a9,[]⟩),_⟩ rfl k1 (Mp.trans k2) (Xo (m:=⟨m.ν,m.own,m.w.drew⟩) h0 fk (heap_alloc_new m.w.drew _) ?_));rw[yf,Ko,Ko,<-td];exact zR _ D'
end
end Go.j4

namespace Go.j4
open Go.RowKit
section
variable {B:Nat} {S:Nat->Prop} {w0:World} {m:M}
variable {P:Program} {num:Nat->Nat} {o:Oper} {a:Act} {ρ:BM->AV}
structure LX (P:Program) (num:Nat->Nat) (C:Cl):Prop where
 Dg : ∀ (f:Nat) (vs:d_) (r:AV),C.pure f vs=some r -> ∀ (us:Array Value) (w:World),(callFunc (num f) us).run P w = .ok (.enter (num f) us) w
 Aa : ∀ (f:Nat) (vs:d_) (own:BF) (r:AV × BF),C.kv f vs own=some r -> ∀ (us:Array Value) (w:World),(callFunc (num f) us).run P w = .ok (.enter (num f) us) w
 pure : ∀ (f:Nat) (vs:d_) (r:AV),C.pure f vs=some r -> ∀ (S:Nat->Prop) (w:World) (us:List Value),vs.length=us.length->(∀ (j:Nat) (c:AV) (v:Value),vs[j]? = some c->us[j]? = some v->CA w.heap.size S ⟨λ_ _=>none,BF.emp,w⟩ c v) ->
  Calls P (num f) us.toArray w λ e w' => ∃ u,e = .returned u/\Below w.heap.size w w'/\CV w.heap.size S ⟨λ_ _=>none,BF.emp,w'⟩ r u/\CI r
 kv : ∀ (f:Nat) (vs:d_) (own:BF) (r:AV) (m8:BF),C.kv f vs own=some (r,m8) -> ∀ (B:Nat) (S:Nat->Prop) (w0:World) (m:M) (us:List Value),m.own=own->DR B S w0 m->vs.length=us.length->(∀ (j:Nat) (c:AV) (v:Value),vs[j]? = some c->us[j]? = some v->CV B S m c v) ->
  Calls P (num f) us.toArray m.w λ e w' => ∃ u m',e = .returned u/\m'.w=w'/\m'.own=m8/\DR B S w0 m'/\GY B S m m'/\CV B S m' r u
 num:C.num=num
end
end Go.j4

namespace Go.j4
open Go.RowKit
theorem ZK {α β:Type} (f:α->Option β) : ∀ {l:List α} {l':List β},l.mapM f=some l'->l.length=l'.length /\ ∀ (i:Nat) (x:α),l[i]? = some x -> ∃ y,l'[i]? = some y/\f x=some y
 | [],l',h=>by
  simp at h;subst h;exact ⟨rfl,λ i x hx=>by simp at hx⟩
 | x::r,l',h=>by
  simp only[cd,We,He]at h;cases hx:f x with
  | none=>simp [hx]at h
  | some y =>
   cases hr:r.mapM f with
   | none=>simp [hx,hr]at h
   | some r' =>
    simp [hx,hr]at h;subst h;obtain ⟨h1,h2⟩:=ZK f hr;refine ⟨by simp [h1],λ i z hz => ?_⟩;cases i with
    | zero=>simp at hz;subst hz;exact ⟨y,rfl,hx⟩
    | succ i=>exact h2 i z (by simpa using hz)
section
variable {B:Nat} {S:Nat->Prop} {w0:World} {m:M}
variable {P:Program} {num:Nat->Nat} {o:Oper} {a:Act} {ρ:BM->AV}
theorem AgO (hm:DR B S w0 m) (l0:Bool) (R:Bool->Nat->Prop) (hR : ∀ l b,b<m.w.heap.size->safe B S m l b->R l b) (hL : ∀ s t g,live m s t->m.ν s t=some g->R l0 g) :
  ∀ (d:Nat) (c c':AV) (v:Value),snap m.own l0 d c=some c'->CC B S m c v->Rd m.w R c' v:=by
 intro d;induction d with
 | zero =>
  intro c c' v h hc;cases hc with
  | rd hr =>
   have:c'=c:=by cases hr<;>simp [snap]at h<;>exact h.symm
   subst this;exact hr.mono hR (λ_ _ _ _=>rfl)
  | nil=>simp [snap]at h;subst h;exact .sj _ _ _
  | _=>simp [snap]at h
 | succ d ih =>
  intro c c' v h hc;cases hc with
  | rd hr =>
   have:c'=c:=by cases hr<;>simp [snap]at h<;>exact h.symm
   subst this;exact hr.mono hR (λ_ _ _ _=>rfl)
  | nil=>simp [snap]at h;subst h;exact .sj _ _ _
  | ptr=>simp [snap]at h
  | af=>simp [snap]at h
  | row s t z off len ad cap ht jt wu ha hb =>
   simp only[snap]at h;cases lg:IU m.own (.row s t z off len) with
   | none=>simp [lg]at h
   | some es =>
    simp only[lg]at h;cases qw:es.mapM (λ cs:d_=>cs.mapM (snap m.own l0 d)) with
    | none=>simp [qw]at h
    | some es' =>
     simp [qw]at h;subst h;have Avf:(∀ e∈es,e.length=z)/\es.length=len /\ ∃ b,m.own.get s t=some b:=by
      simp only[IU]at lg;cases u6:m.own.get s t with
      | none=>simp [u6]at lg
      | some b =>
       simp only[u6]at lg;split at lg
       ·rename_i hle
        obtain rfl:=Eb lg;refine ⟨λ e he => ?_,by simp;omega,b,rfl⟩;rw[<-hle.2];exact (hm.g8 s t b u6).1 e (vg (ie he))
       ·cases lg
     obtain ⟨hz,hlen,b,u6⟩:=Avf;have dh:CV B S m (.row s t z off len) (.slice ad len cap):= .ca (.one (.row s t z off len ad cap ht jt wu ha hb));obtain ⟨ad2,Atm,news,Wp,hE⟩:=yA hm dh lg hz jt;obtain ⟨rfl,_,rfl⟩:ad=ad2/\len=es.length/\cap=Atm:=by simpa using Wp
     obtain ⟨rf,Ds⟩:=ZK _ qw;by_cases h0:es=[]
     ·subst h0
      have:es'=[]:=zc (by rw[<-rf];rfl)
      subst this;have:len=0:=by rw[<-hlen];rfl
      subst this;exact .sj _ _ _
     ·obtain ⟨_,gn⟩:=hb b u6
      rcases gn with ⟨ANt,_⟩|⟨g,arr,e',hg,ve,hh,hcz⟩
      ·exact absurd (zc D') h0
      ·rw[ve,<-hlen,rf]
       refine .sl l0 es' g (off*z) z cap (λ i j=>news.getD (i*z+j) undef) (λ e=>h0 (zc (by rw[rf,e];rfl))) jt (hL s t g ⟨b,u6⟩ hg) D' (λ e' qu => ?_) (λ i e hi j c hj => ?_) (λ i e hi j c hj => ?_)
       ·obtain ⟨i,hi,rfl⟩:=Tg qu
        have v5:i<es.length:=D'
        obtain ⟨y,hy,lk⟩:=Ds i es[i] (zE v5);have:es'[i]=y:=by
         have:=(zS hy).2;exact this
        rw[this,<-(ZK _ lk).1];exact hz _ (ue v5)
       ·have v5:i<es.length:=by rw[rf];exact (zS hi).1
        obtain ⟨y,hy,lk⟩:=Ds i es[i] (zE v5);rw[hi]at hy;obtain rfl:e=y:=by simpa using hy
        obtain ⟨lv,_⟩:=ZK _ lk;have Px:j<(es[i]).length:=by rw[lv];exact (zS hj).1
        obtain ⟨u,hu,my⟩:=hE.rel i es[i] (zE v5) j _ (zE Px);have:=hE.cells _ ve (i*z+j) u hu
        rw[M8]at this;simp only[Jf,hu,Le];exact this
       ·have v5:i<es.length:=by rw[rf];exact (zS hi).1
        obtain ⟨y,hy,lk⟩:=Ds i es[i] (zE v5);rw[hi]at hy;obtain rfl:e=y:=by simpa using hy
        obtain ⟨lv,ta⟩:=ZK _ lk;have Px:j<(es[i]).length:=by rw[lv];exact (zS hj).1
        obtain ⟨u,hu,my⟩:=hE.rel i es[i] (zE v5) j _ (zE Px);obtain ⟨c2,uf,Aj⟩:=ta j _ (zE Px);rw[hj]at uf;obtain rfl:c=c2:=by simpa using uf
        simp only[Jf,hu,Le];exact ih _ _ _ Aj my
def DA (w:World) (R:Bool->Nat->Prop) (c:AV) (v:Value):Prop :=
 Rd w R c v \/ ∃ (cs:d_) (vs:List Value),c = .agg cs/\v = .agg vs.toArray/\cs.length=vs.length /\ ∀ (j:Nat) (x:AV) (u:Value),cs[j]? = some x->vs[j]? = some u->Rd w R x u
theorem uM (hm:DR B S w0 m) (l0:Bool) (R:Bool->Nat->Prop) (hR : ∀ l b,b<m.w.heap.size->safe B S m l b->R l b) (hL : ∀ s t g,live m s t->m.ν s t=some g->R l0 g)
  {c c':AV} {v:Value} (h:F4 m.own l0 c=some c') (hc:CV B S m c v):DA m.w R c' v:=by
 cases hc with
 | any v=>simp [F4,snap]at h
 | e9=>simp [F4,snap]at h
 | ca hc=>cases hc with
  | one hc =>
   have h':snap m.own l0 6 c=some c':=by
    cases hc with
    | rd hr=>cases hr<;>simpa [F4] using h
    | _=>simpa [F4] using h
   exact Or.inl (AgO hm l0 R hR hL 6 c c' v h' hc)
  | fn=>simp [F4,snap]at h
  | Cm=>simp [F4,snap]at h
  | agg cs vs q5 =>
   simp only[F4]at h;cases qj:cs.mapM (snap m.own l0 6) with
   | none=>simp [qj]at h
   | some lf =>
    simp [qj]at h;subst h;obtain ⟨h1,h2⟩:=ZK _ qj;refine Or.inr ⟨lf,vs,rfl,rfl,h1.symm.trans q5.1,λ j x u hx hu => ?_⟩;have hj:j<cs.length:=by rw[h1];exact (zS hx).1
    obtain ⟨y,hy,lk⟩:=h2 j cs[j] (zE hj);rw[hx]at hy;obtain rfl:x=y:=by simpa using hy
    exact AgO hm l0 R hR hL 6 _ _ _ lk (q5.2 j cs[j] u (zE hj) hu)
def DV (w:World) (R:Bool->Nat->Prop) (c:AV) (v:Value):Prop :=
 DA w R c v \/ ∃ (cs:d_) (vs:List Value),c = .e9 cs/\v = .tuple vs.toArray/\cs.length=vs.length /\ ∀ (j:Nat) (x:AV) (u:Value),cs[j]? = some x->vs[j]? = some u->DA w R x u
theorem Asj (hm:DR B S w0 m) (l0:Bool) (R:Bool->Nat->Prop) (hR : ∀ l b,b<m.w.heap.size->safe B S m l b->R l b) (hL : ∀ s t g,live m s t->m.ν s t=some g->R l0 g)
  {c c':AV} {v:Value} (h:dN m.own l0 c=some c') (hc:CV B S m c v):DV m.w R c' v:=by
 by_cases ht : ∃ cs,c = .e9 cs
 ·obtain ⟨cs,rfl⟩:=ht
  obtain ⟨vs,rfl,hl,fe⟩:=wZ hc;simp only[dN]at h;cases qj:cs.mapM (F4 m.own l0) with
  | none=>simp [qj]at h
  | some lf =>
   simp [qj]at h;subst h;obtain ⟨h1,h2⟩:=ZK _ qj;refine Or.inr ⟨lf,vs,rfl,rfl,h1.symm.trans hl,λ j x u hx hu => ?_⟩;have hj:j<cs.length:=by rw[h1];exact (zS hx).1
   obtain ⟨y,hy,lk⟩:=h2 j cs[j] (zE hj);rw[hx]at hy;obtain rfl:x=y:=by simpa using hy
   exact uM hm l0 R hR hL lk (.ca (fe j cs[j] u (zE hj) hu))
 ·have h':F4 m.own l0 c=some c':=by
   cases c<;>first|exact h|exact absurd ⟨_,rfl⟩ ht
  exact Or.inl (uM hm l0 R hR hL h' hc)
theorem DA.ca {B:Nat} {S:Nat->Prop} {m:M} {c:AV} {v:Value} (h:DA m.w (safe B S m) c v):CA B S m c v:=by
 rcases h with h|⟨cs,vs,rfl,rfl,hl,hh⟩
 ·exact .one (.rd h)
 ·exact .agg cs vs ⟨hl,λ j x u hx hu => .rd (hh j x u hx hu)⟩
theorem DV.cv {B:Nat} {S:Nat->Prop} {m:M} {c:AV} {v:Value} (h:DV m.w (safe B S m) c v):CV B S m c v:=by
 rcases h with h|⟨cs,vs,rfl,rfl,hl,hh⟩
 ·exact .ca h.ca
 ·exact .e9 cs vs hl λ j x u hx hu=>(hh j x u hx hu).ca
theorem VZ : ∀ {cs:d_},ES cs -> ∀ (j:Nat) (c:AV),cs[j]? = some c->CI c
 | [],_,j,c,h=>by simp at h
 | x::r,hc,j,c,h=>by
  unfold ES at hc;cases j with
  | zero=>simp at h;subst h;exact hc.1
  | succ j=>exact VZ hc.2 j c (by simpa using h)
theorem qX : ∀ {cs:c_},J6 cs -> ∀ (j:Nat) (c:d_),cs[j]? = some c->ES c
 | [],_,j,c,h=>by simp at h
 | x::r,hc,j,c,h=>by
  unfold J6 at hc;cases j with
  | zero=>simp at h;subst h;exact hc.1
  | succ j=>exact qX hc.2 j c (by simpa using h)
theorem Rd.clean {w:World} {R R':Bool->Nat->Prop} (hR : ∀ b,b<w.heap.size->R false b->R' false b) {c:AV} {v:Value} (h:Rd w R c v) (hc:CI c):Rd w R' c v:=by
 induction h with
 | int k n=>exact .int k n
 | bool b=>exact .bool b
 | str s=>exact .str s
 | vz=>exact .vz
 | sj l a cap=>exact .sj l a cap
 | emp b a cap h=>exact .emp b a cap h
 | sl l es b o a9 cap u n6 hp h1 fk hz q5 hr ih =>
  unfold CI at hc;obtain ⟨rfl,hc⟩:=hc;obtain ⟨e,c,he,qf⟩:=mY n6 hp hz;have hb:b<w.heap.size:=eI (q5 0 e he 0 c qf);exact .sl false es b o a9 cap u n6 hp (hR b hb h1) fk hz q5 λ i e he j c hj=>ih i e he j c hj (VZ (qX hc i e he) j c hj)
theorem DA.clean {w:World} {R R':Bool->Nat->Prop} (hR : ∀ b,b<w.heap.size->R false b->R' false b) {c:AV} {v:Value} (h:DA w R c v) (hc:CI c):DA w R' c v:=by
 rcases h with h|⟨cs,vs,rfl,rfl,hl,hh⟩
 ·exact Or.inl (h.clean hR hc)
 ·unfold CI at hc
  exact Or.inr ⟨cs,vs,rfl,rfl,hl,λ j x u hx hu=>(hh j x u hx hu).clean hR (VZ hc j x hx)⟩
theorem DV.clean {w:World} {R R':Bool->Nat->Prop} (hR : ∀ b,b<w.heap.size->R false b->R' false b) {c:AV} {v:Value} (h:DV w R c v) (hc:CI c):DV w R' c v:=by
 rcases h with h|⟨cs,vs,rfl,rfl,hl,hh⟩
 ·exact Or.inl (h.clean hR hc)
 ·unfold CI at hc
  exact Or.inr ⟨cs,vs,rfl,rfl,hl,λ j x u hx hu=>(hh j x u hx hu).clean hR (VZ hc j x hx)⟩
theorem wU {B:Nat} {S:Nat->Prop} {m:M} {c:AV} {v:Value} (h:CV B S m c v) (hc:CI c):DV m.w (safe B S m) c v:=by
 have one : ∀ {c:AV} {v:Value},CC B S m c v->CI c->Rd m.w (safe B S m) c v:=λ h hc=>by
  cases h with
  | rd h=>exact h
  | _=>unfold CI at hc;exact hc.elim
 have ca : ∀ {c:AV} {v:Value},CA B S m c v->CI c->DA m.w (safe B S m) c v:=λ h hc=>by
  cases h with
  | one h=>exact Or.inl (one h hc)
  | fn=>unfold CI at hc;exact hc.elim
  | Cm=>unfold CI at hc;exact hc.elim
  | agg cs vs h =>
   unfold CI at hc;exact Or.inr ⟨cs,vs,rfl,rfl,h.1,λ j x u hx hu=>one (h.2 j x u hx hu) (VZ hc j x hx)⟩
 cases h with
 | any v=>unfold CI at hc;exact hc.elim
 | ca h=>exact Or.inl (ca h hc)
 | e9 as vs hl h =>
  unfold CI at hc;exact Or.inr ⟨as,vs,rfl,rfl,hl,λ j x u hx hu=>ca (h j x u hx hu) (VZ hc j x hx)⟩
theorem uA {f:Nat} {xs:Array Operand} {ts:Array TypeId} (m7:o.op = .call ⟨.value (.func f),xs,ts⟩) {w:World} (h:(callFunc f (xs.map a.eval)).run P w = .ok (.enter f (xs.map a.eval)) w):(execOp a.eval o).run P w = .ok (.enter f (xs.map a.eval)) w:=by
 simp [execOp,m7,resolve,Deferred.ofValue,Act.eval,invoke];exact h
theorem Adi {C:Cl} (hC:LX P num C) (hm:DR B S w0 m) {f:Nat} {us:List Value} {as:d_} (hl:us.length=as.length) (hx : ∀ (j:Nat) (v:Value) (c:AV),us[j]? = some v->as[j]? = some c->CV B S m c v) (hex : ∀ w:World,(callFunc (num f) us.toArray).run P w = .ok (.enter (num f) us.toArray) w->(execOp a.eval o).run P w = .ok (.enter (num f) us.toArray) w) {vs:d_} {r:AV} (hv:as.mapM (F4 m.own true)=some vs) (hr:C.pure f vs=some r):FE B S w0 P o a m (.val r):=by
 obtain ⟨lv,ta⟩:=ZK _ hv;have uc : ∀ (j:Nat) (c:AV) (v:Value),vs[j]? = some c->us[j]? = some v->CA m.w.heap.size (safe B S m false) ⟨λ_ _=>none,BF.emp,m.w⟩ c v:=by
  intro j c v hc zt;have jy:j<as.length:=by rw[<-hl];exact (zS zt).1
  obtain ⟨y,hy,lk⟩:=ta j as[j] (zE jy);rw[hc]at hy;obtain rfl:c=y:=by simpa using hy
  have dh:=hx j v as[j] zt (zE jy);have zk:=uM hm true (safe m.w.heap.size (safe B S m false) ⟨λ_ _=>none,BF.emp,m.w⟩) (λ l b hb Im=>by
   cases l with
   | false=>exact .inl ⟨Im,hb⟩
   | true=>exact .inr (.inr ⟨rfl,hb⟩)) (λ s t g te hg=>by
   obtain ⟨_,arr,e,hh⟩:=hm.ge te hg;exact .inr (.inr ⟨rfl,(jb.1 hh).1⟩)) lk dh
  exact DA.ca (m:=⟨λ_ _=>none,BF.emp,m.w⟩) zk
 have mq:=hC.pure f vs r hr (safe B S m false) m.w us (by rw[<-lv];exact hl.symm) uc;intro K Q hK;unfold Oper.wp;rw[hex _ (hC.Dg f vs r hr _ _)];refine Calls.mono mq λ e w' ⟨u,qu,qt,dh,q5⟩ => ?_
 subst qu;obtain ⟨wy,oc⟩:=grow hm qt;refine hK u ⟨m.ν,m.own,w'⟩ rfl wy oc ?_;refine DV.cv (m:=⟨m.ν,m.own,w'⟩) ((wU dh q5).clean (λ b hb Im => ?_) q5);rcases Im with ⟨h1,h2⟩|⟨h1,_⟩|⟨h1,_⟩
 ·exact oc.Kt false b h2 h1
 ·refine .inr (.inl ⟨Te hm.size h1,λ s t te hg => ?_⟩)
  obtain ⟨b',m9⟩:=ud.1 te;obtain ⟨_,arr,e,hh⟩:=hm.ge ⟨b',m9⟩ hg;have:=(jb.1 hh).1
  omega
 ·cases h1
theorem Adh {C:Cl} (hC:LX P num C) (hm:DR B S w0 m) (hs:E9 B S m ρ a.eval) {f:Nat} {xs:Array Operand} {q7:List BM} (he:H4 xs.toList q7=true) (hex : ∀ w:World,(callFunc (num f) (xs.map a.eval)).run P w = .ok (.enter (num f) (xs.map a.eval)) w->(execOp a.eval o).run P w = .ok (.enter (num f) (xs.map a.eval)) w) {vs:d_} {r:AV} (hv:(q7.map ρ).mapM (F4 m.own true)=some vs) (hr:C.pure f vs=some r):FE B S w0 P o a m (.val r):=by
 obtain ⟨hl,hx⟩:=fJ hs he;have od:(xs.map a.eval)=(xs.toList.map a.eval).toArray:=by cases xs;simp
 rw[od]at hex;refine Adi hC hm (us:=xs.toList.map a.eval) (as:=q7.map ρ) (by simp [hl]) (λ j v c h1 h2 => ?_) hex hv hr;rw[Fb]at h1 h2;cases uq:xs.toList[j]? with
 | none=>simp [uq]at h1
 | some x =>
  cases zu:q7[j]? with
  | none=>simp [zu]at h2
  | some y =>
   simp only[uq,zu,Qc,ka]at h1 h2;subst h1 h2;exact hx j x y uq zu
theorem Amj {C:Cl} (hC:LX P num C) (hm:DR B S w0 m) (hs:E9 B S m ρ a.eval) {f:Nat} {q7:List BM} (h:C5 P num o.op (.call f q7)=true) {vs:d_} {r:AV} (hv:(q7.map ρ).mapM (F4 m.own true)=some vs) (hr:C.pure f vs=some r):FE B S w0 P o a m (.val r):=by
 obtain ⟨xs,ts,m7,he⟩:=Ym h;exact Adh hC hm hs he (λ w h=>uA m7 h) hv hr
theorem xS {C:Cl} (hC:LX P num C) (hm:DR B S w0 m) (hs:E9 B S m ρ a.eval) {f:Nat} {q7:List BM} (h:C5 P num o.op (.j5 f q7)=true) {r:AV} {m8:BF} (hr:C.kv f (q7.map ρ) m.own=some (r,m8)):FE B S w0 P o a m (.kb r m8):=by
 obtain ⟨xs,ts,m7,he⟩:=Ap1 h;obtain ⟨hl,hx⟩:=fJ hs he;have od:(xs.map a.eval)=(xs.toList.map a.eval).toArray:=by cases xs;simp
 have mq:=hC.kv f (q7.map ρ) m.own r m8 hr B S w0 m (xs.toList.map a.eval) rfl hm (by simp [hl]) (λ j c v hc hv=>by
  rw[Fb]at hc hv;cases uq:xs.toList[j]? with
  | none=>simp [uq]at hv
  | some x =>
   cases zu:q7[j]? with
   | none=>simp [zu]at hc
   | some y =>
    simp [uq]at hv;simp [zu]at hc;subst hv hc;exact hx j x y uq zu)
 intro K Q hK;unfold Oper.wp;rw[uA m7 (hC.Aa f _ _ _ hr _ _),od];refine Calls.mono mq λ e w' ⟨u,m',qu,hw,m5,wy,oc,dh⟩ => ?_
 subst qu hw;exact hK u m' m5 wy oc dh
theorem Akx (hm:DR B S w0 m) {w':World} (hb:Below m.w.heap.size m.w w') (s:Nat) (b:HU) (gg:Option Nat) (hz : ∀ x∈b.es,x.length=b.a9)
  (hg:match gg with|none=>b.es=[]|some g=>m.w.heap.size<=g /\ ∃ arr e,w'.heap[g]? = some (.cells arr e (0,0)) /\ ∀ i cs,b.es[i]? = some cs -> ∀ j c,cs[j]? = some c -> ∃ u,arr[i*b.a9+j]? = some u/\CC B S ⟨k6 m s gg,m.own.put s ((m.own s).new b),w'⟩ c u) :
  DR B S w0 ⟨k6 m s gg,m.own.put s ((m.own s).new b),w'⟩/\GY B S m ⟨k6 m s gg,m.own.put s ((m.own s).new b),w'⟩:=by
 have hν : ∀ s' t',live m s' t'->k6 m s gg s' t'=m.ν s' t':=λ s' t' hl=>by
  unfold k6;rw[if_neg];rintro ⟨rfl,rfl⟩
  exact sX hm _ hl
 have vi : ∀ g,gg=some g->m.w.heap.size<=g:=λ g e=>by subst e;exact hg.1
 have he:GY B S m ⟨k6 m s gg,m.own.put s ((m.own s).new b),w'⟩:=by
  refine fP hm hb.size (λ k hk _=>hb.block k hk) (λ s' => ?_) (λ s' t' b' ht m9 => ?_) (λ s' t' g hl lq n7 => ?_)
  ·rw[V0];split
   ·rename_i h;subst h;omega
   ·exact Gc _
  ·rw[K2]at m9
   rw[if_neg (by rintro ⟨rfl,rfl⟩;omega)]at m9;refine ⟨b',m9,rfl,hν s' t' ⟨b',m9⟩,λ g ar e' lq ha=>⟨ar,?_,rfl⟩⟩;exact (hb.block g (jb.1 ha).1).trans ha
  ·obtain ⟨b',m9⟩:=hl
   rw[K2]at m9;by_cases h:s'=s/\t'=m.own.j8 s
   ·simp only[k6,if_pos h]at lq
    have:=vi g lq
    omega
   ·rw[if_neg h]at m9
    exact ⟨s',t',⟨b',m9⟩,by rw[<-hν s' t' ⟨b',m9⟩];exact lq⟩
 refine ⟨⟨hm.below.trans (hb.mono hm.size),Te hm.size hb.size,λ s' t' ht => ?_,λ s' t' b' m9 => ?_,λ s1 t1 s2 t2 b1 b2 g h1 h2 g1 g2 => ?_⟩,he⟩
 ·rw[V0]at ht
  rw[K2,if_neg]
  ·refine hm.fresh s' t' ?_
   split at ht
   ·rename_i h;subst h;omega
   ·exact ht
  ·rintro ⟨rfl,rfl⟩
   simp at ht;omega
 ·rw[K2]at m9
  by_cases h:s'=s/\t'=m.own.j8 s
  ·rw[if_pos h]at m9
   obtain rfl:b=b':=by simpa using m9
   refine ⟨hz,?_⟩;show match k6 m s gg s' t' with|none=>_|some g=>_
   rw[show k6 m s gg s' t'=gg by simp [k6,h]];cases gg with
   | none=>exact hg
   | some g=>exact ⟨Te hm.size hg.1,hg.2⟩
  ·rw[if_neg h]at m9
   obtain ⟨h1,h2⟩:=hm.g8 s' t' b' m9;refine ⟨h1,?_⟩;show match k6 m s gg s' t' with|none=>_|some g=>_
   rw[hν s' t' ⟨b',m9⟩];cases hv:m.ν s' t' with
   | none=>rw[hv]at h2;exact h2
   | some g =>
    rw[hv]at h2;obtain ⟨h3,ar,e',h4,h5⟩:=h2;refine ⟨h3,ar,e',(hb.block g (jb.1 h4).1).trans h4,λ i cs hi j c hj => ?_⟩;obtain ⟨u,hu,fe⟩:=h5 i cs hi j c hj;exact ⟨u,hu,he.cc fe⟩
 ·rw[K2]at h1 h2
  have lt : ∀ s' t' b',m.own.get s' t'=some b'->k6 m s gg s' t'=some g->g<m.w.heap.size:=λ s' t' b' m9 lq=>by
   rw[hν s' t' ⟨b',m9⟩]at lq;obtain ⟨_,ar,e',h4⟩:=hm.ge ⟨b',m9⟩ lq;exact (jb.1 h4).1
  have at_ : ∀ s' t',s'=s/\t'=m.own.j8 s->k6 m s gg s' t'=some g->m.w.heap.size<=g:=λ s' t' h lq=>by
   simp only[k6,if_pos h]at lq;exact vi g lq
  by_cases p1:s1=s/\t1=m.own.j8 s<;>by_cases p2:s2=s/\t2=m.own.j8 s
  ·exact ⟨p1.1.trans p2.1.symm,p1.2.trans p2.2.symm⟩
  ·rw[if_neg p2]at h2
   have:=lt s2 t2 b2 h2 g2
   have:=at_ s1 t1 p1 g1
   omega
  ·rw[if_neg p1]at h1
   have:=lt s1 t1 b1 h1 g1
   have:=at_ s2 t2 p2 g2
   omega
  ·rw[if_neg p1]at h1
   rw[if_neg p2]at h2;exact hm.inj s1 t1 s2 t2 b1 b2 g h1 h2 (by rw[<-hν s1 t1 ⟨b1,h1⟩];exact g1) (by rw[<-hν s2 t2 ⟨b2,h2⟩];exact g2)
theorem Amn {C:Cl} (hC:LX P num C) (hm:DR B S w0 m) (hs:E9 B S m ρ a.eval) {s f:Nat} {q7:List BM} (h:C5 P num o.op (.bf s f q7)=true) {vs:d_} (hv:(q7.map ρ).mapM (YK m.own true)=some vs) {z:Nat} {es:c_} (hr:WR (C.kv f vs BF.emp)=some (z,es)) :
  FE B S w0 P o a m (.new s ⟨z,es⟩ (λ t => .row s t z 0 es.length)):=by
 obtain ⟨xs,ts,m7,he⟩:=Ym (Ap3 h);obtain ⟨s0,t0,o',b0,hin,u6,rfl,q5⟩:=Akw hr;obtain ⟨hl,hx⟩:=fJ hs he;obtain ⟨lv,ta⟩:=ZK _ hv;have od:(xs.map a.eval)=(xs.toList.map a.eval).toArray:=by cases xs;simp
 have uc : ∀ (j:Nat) (c:AV) (v:Value),vs[j]? = some c->(xs.toList.map a.eval)[j]? = some v->CV m.w.heap.size (safe B S m false) ⟨λ_ _=>none,BF.emp,m.w⟩ c v:=by
  intro j c v hc zt;rw[Fb]at zt;cases uq:xs.toList[j]? with
  | none=>simp [uq]at zt
  | some x =>
   simp [uq]at zt;subst zt;have jy:j<q7.length:=by rw[<-hl];exact (zS uq).1
   obtain ⟨y,hy,lk⟩:=ta j (ρ q7[j]) (by rw[Fb,zE jy];rfl);rw[hc]at hy;obtain rfl:c=y:=by simpa using hy
   have dh:=hx j x q7[j] uq (zE jy);have hN:(ρ q7[j] = .nil/\c = .nil)\/F4 m.own true (ρ q7[j])=some c:=by
    cases e:ρ q7[j] with
    | nil=>rw[e]at lk;exact .inl ⟨rfl,(Eb lk).symm⟩
    | _=>rw[e]at lk;exact .inr lk
   rcases hN with ⟨e1,rfl⟩|lk
   ·rw[e1]at dh
    rw[aH dh];exact .ca (.one .nil)
   have zk:=uM hm true (safe m.w.heap.size (safe B S m false) ⟨λ_ _=>none,BF.emp,m.w⟩) (λ l b hb Im=>by
    cases l with
    | false=>exact .inl ⟨Im,hb⟩
    | true=>exact .inr (.inr ⟨rfl,hb⟩)) (λ s t g te hg=>by
    obtain ⟨_,arr,e,hh⟩:=hm.ge te hg;exact .inr (.inr ⟨rfl,(jb.1 hh).1⟩)) lk dh
   exact .ca (DA.ca (m:=⟨λ_ _=>none,BF.emp,m.w⟩) zk)
 have hm0:DR m.w.heap.size (safe B S m false) m.w ⟨λ_ _=>none,BF.emp,m.w⟩:=⟨Below.refl _ _,Gc _,λ_ _ _=>rfl,(λ s t b h=>by cases h),(λ_ _ _ _ _ _ _ h=>by cases h)⟩;have mq:=hC.kv f vs BF.emp _ o' hin m.w.heap.size (safe B S m false) m.w ⟨λ_ _=>none,BF.emp,m.w⟩ (xs.toList.map a.eval) rfl hm0 (by rw[<-lv];simp [hl]) uc;intro K Q hK;unfold Oper.wp;rw[uA m7 (hC.Aa f _ _ _ hin _ _),od];refine Calls.mono mq λ e w' ⟨u,m',qu,hw,m5,wy,ABX,dh⟩ => ?_
 subst qu hw;have qt:Below m.w.heap.size m.w m'.w:=wy.below;rw[<-m5]at u6;obtain ⟨hz,xy⟩:=wy.g8 s0 t0 b0 u6;obtain ⟨ad,cap,rfl,ht,jt,wu,ha,hb⟩:=jK dh;obtain ⟨oo,gn⟩:=hb b0 u6;subst oo;have hold : ∀ s t g,live m s t->m.ν s t=some g->g<m.w.heap.size:=λ s t g te hg=>by
  obtain ⟨_,arr,e,hh⟩:=hm.ge te hg;exact (jb.1 hh).1
 have Ni : ∀ s' t' g,live ⟨k6 m s (m'.ν s0 t0),m.own.put s ((m.own s).new ⟨b0.a9,b0.es⟩),m'.w⟩ s' t'->k6 m s (m'.ν s0 t0) s' t'=some g->g<m.w.heap.size\/m'.ν s0 t0=some g:=λ s' t' g te hg=>by
  obtain ⟨b',m9⟩:=te;rw[K2]at m9;by_cases m4:s'=s/\t'=m.own.j8 s
  ·simp only[k6,if_pos m4]at hg
   exact Or.inr hg
  ·rw[if_neg m4]at m9
   simp only[k6,if_neg m4]at hg;exact Or.inl (hold s' t' g ⟨b',m9⟩ hg)
 have hR : ∀ b,b<m'.w.heap.size->safe m.w.heap.size (safe B S m false) m' false b->safe B S ⟨k6 m s (m'.ν s0 t0),m.own.put s ((m.own s).new ⟨b0.a9,b0.es⟩),m'.w⟩ false b:=λ b Pr Im=>by
  rcases Im with ⟨h1,h2⟩|⟨h1,h2⟩|⟨h1,_⟩
  ·rcases h1 with h1|⟨h1,h3⟩|⟨h1,_⟩
   ·exact .inl h1
   ·refine .inr (.inl ⟨h1,λ s' t' te hg => ?_⟩)
    obtain ⟨b',m9⟩:=ud.1 te;have ag:=m9;rw[K2]at ag;by_cases m4:s'=s/\t'=m.own.j8 s
    ·simp only[k6,if_pos m4]at hg
     rw[hg]at xy;have:=xy.1
     omega
    ·rw[if_neg m4]at ag
     simp only[k6,if_neg m4]at hg;exact h3 s' t' (by rw[ag];rfl) hg
   ·cases h1
  ·refine .inr (.inl ⟨Te hm.size h1,λ s' t' te hg => ?_⟩)
   rcases Ni s' t' b (ud.1 te) hg with h3|h3
   ·omega
   ·exact h2 s0 t0 (by rw[u6];rfl) h3
  ·cases h1
 obtain ⟨rh,oc⟩:=Akx hm qt s ⟨b0.a9,b0.es⟩ (m'.ν s0 t0) hz (by
  cases hν:m'.ν s0 t0 with
  | none=>rw[hν]at xy;exact xy
  | some g =>
   rw[hν]at xy hR;obtain ⟨h1,arr,e,h2,h3⟩:=xy;refine ⟨h1,arr,e,h2,λ i cs hi j c hj => ?_⟩;obtain ⟨u,hu,fe⟩:=h3 i cs hi j c hj;refine ⟨u,hu,.rd ?_⟩;have Mh:=VZ (qX q5 i cs hi) j c hj;have tk:Rd m'.w (safe m.w.heap.size (safe B S m false) m') c u:=by
    cases fe with
    | rd h=>exact h
    | _=>unfold CI at Mh;exact Mh.elim
   exact tk.clean hR Mh)
 refine hK _ ⟨k6 m s (m'.ν s0 t0),m.own.put s ((m.own s).new ⟨b0.a9,b0.es⟩),m'.w⟩ rfl rh oc (.ca (.one (.row s (m.own.j8 s) b0.a9 0 b0.es.length ad cap (by show m.own.j8 s<BF.j8 (m.own.put s _) s;rw[V0,if_pos rfl];omega) jt wu ha λ b1 Dk => ?_)));have Hl:(m.own.put s ((m.own s).new ⟨b0.a9,b0.es⟩)).get s (m.own.j8 s)=some b1:=Dk;rw[K2,if_pos ⟨rfl,rfl⟩]at Hl;obtain rfl:=Eb Hl;refine ⟨rfl,?_⟩;rcases gn with h0|⟨g,arr,e,hg,ve,hh,hle⟩
 ·exact .inl h0
 ·exact .inr ⟨g,arr,e,by simp [k6,hg],ve,hh,hle⟩
theorem Ac0 {p:Bool} {f g:Nat} {cs:d_} {v:Value} (h:CV B S m (.fn p f g cs) v) (hp:p=false\/cs=[]) : ∃ vs:List Value,v = .func (.func g) #[] vs.toArray/\CL B S m cs vs:=by
 cases h with
 | ca h=>cases h with
  | one h=>cases h with
   | rd h=>cases h
  | fn p f g cs vs hp h=>exact ⟨vs,rfl,h⟩
  | Cm f g cs vs n6 h =>
   rcases hp with hp|hp
   ·cases hp
   ·exact absurd hp n6
theorem AlH {f g:Nat} {cs:d_} {v:Value} (h:CV B S m (.fn true f g cs) v) (n6:cs≠[]) : ∃ vs:List Value,v = .func (.func g) #[.agg vs.toArray] #[]/\CL B S m cs vs:=by
 cases h with
 | ca h=>cases h with
  | one h=>cases h with
   | rd h=>cases h
  | fn p f g cs vs hp h=>exact absurd (hp rfl) n6
  | Cm f g cs vs n6 h=>exact ⟨vs,rfl,h⟩
theorem Agm {f:Nat} {x:Operand} {xs:Array Operand} {ts:Array TypeId} {vs:Array Value} (m7:o.op = .call ⟨.value x,xs,ts⟩) (hx:a.eval x = .func (.func f) #[] vs) {w:World} (h:(callFunc f (xs.map a.eval++vs)).run P w = .ok (.enter f (xs.map a.eval++vs)) w):(execOp a.eval o).run P w = .ok (.enter f (xs.map a.eval++vs)) w:=by
 simp [execOp,m7,resolve,Deferred.ofValue,hx,invoke];exact h
theorem Amo {C:Cl} (hC:LX P num C) (hm:DR B S w0 m) (hs:E9 B S m ρ a.eval) {x':BM} {q7:List BM} (h:C5 P num o.op (.q6 x' q7)=true) {f:Nat} {cs:d_} (hf:ρ x' = .fn false f (num f) cs) {r:AV} {m8:BF} (hr:C.kv f (q7.map ρ++cs) m.own=some (r,m8)):FE B S w0 P o a m (.kb r m8):=by
 obtain ⟨x,xs,ts,m7,Cx,he⟩:=Yo h;obtain ⟨hl,hx⟩:=fJ hs he;obtain ⟨vs,hv,q5⟩:=Ac0 (hf ▸ hs x x' Cx) (.inl rfl);have od:(xs.map a.eval++vs.toArray)=(xs.toList.map a.eval++vs).toArray:=by cases xs;simp
 have mq:=hC.kv f (q7.map ρ++cs) m.own r m8 hr B S w0 m (xs.toList.map a.eval++vs) rfl hm (by simp [hl,q5.1]) (λ j c v hc hv=>by
  by_cases hj:j<q7.length
  ·rw[Vc (by simpa using hj),Fb]at hc
   rw[Vc (by simpa [hl] using hj),Fb]at hv;have hj2:j<xs.toList.length:=by rw[hl];exact hj
   rw[zE hj]at hc;rw[zE hj2]at hv;simp only[Qc,ka]at hc hv;subst hc hv;exact hx j _ _ (zE hj2) (zE hj)
  ·rw[Cc (by simpa using hj),Ee]at hc
   rw[Cc (by simpa [hl] using hj),Ee,hl]at hv;exact .ca (.one (q5.2 _ c v hc hv)))
 intro K Q hK;unfold Oper.wp;rw[Agm m7 hv (hC.Aa f _ _ _ hr _ _),od];refine Calls.mono mq λ e w' ⟨u,m',qu,hw,m5,wy,oc,dh⟩ => ?_
 subst qu hw;exact hK u m' m5 wy oc dh
theorem Aml {C:Cl} (hC:LX P num C) (hm:DR B S w0 m) (hs:E9 B S m ρ a.eval) {x':BM} {q7:List BM} (h:C5 P num o.op (.q6 x' q7)=true) {f:Nat} (hf:ρ x' = .fn true f (num f) []) {vs:d_} {r:AV} (hv:(q7.map ρ).mapM (F4 m.own true)=some vs) (hr:C.pure f vs=some r):FE B S w0 P o a m (.val r):=by
 obtain ⟨x,xs,ts,m7,Cx,he⟩:=Yo h;obtain ⟨us,hu,q5⟩:=Ac0 (hf ▸ hs x x' Cx) (.inr rfl);have hu0:us=[]:=zc (by rw[<-q5.1];rfl);subst hu0;refine Adh hC hm hs he (λ w h => ?_) hv hr;have:=Agm (P:=P) (w:=w) m7 hu (by simpa using h)
 simpa using this
theorem ArU {f:Nat} {x:Operand} {xs:Array Operand} {ts:Array TypeId} {u:Value} (m7:o.op = .call ⟨.value x,xs,ts⟩) (hx:a.eval x = .func (.func f) #[u] #[]) {w:World} (h:(callFunc f (#[u]++xs.map a.eval)).run P w = .ok (.enter f (#[u]++xs.map a.eval)) w):(execOp a.eval o).run P w = .ok (.enter f (#[u]++xs.map a.eval)) w:=by
 simp [execOp,m7,resolve,Deferred.ofValue,hx,invoke];exact h
theorem Amk {C:Cl} (hC:LX P num C) (hm:DR B S w0 m) (hs:E9 B S m ρ a.eval) {x':BM} {q7:List BM} (h:C5 P num o.op (.q6 x' q7)=true) {f:Nat} {c:AV} {cs:d_} (hf:ρ x' = .fn true f (num f) (c::cs)) {vs:d_} {r:AV} (hv:(AV.agg (c::cs)::q7.map ρ).mapM (F4 m.own true)=some vs) (hr:C.pure f vs=some r):FE B S w0 P o a m (.val r):=by
 obtain ⟨x,xs,ts,m7,Cx,he⟩:=Yo h;obtain ⟨us,hu,q5⟩:=AlH (hf ▸ hs x x' Cx) p_;obtain ⟨hl,hx⟩:=fJ hs he;have od:(#[Value.agg us.toArray]++xs.map a.eval)=(Value.agg us.toArray::xs.toList.map a.eval).toArray:=by cases xs;simp
 refine Adi hC hm (us:=Value.agg us.toArray::xs.toList.map a.eval) (as:=AV.agg (c::cs)::q7.map ρ) (by simp [hl]) (λ j v c' h1 h2 => ?_) (λ w h=>by
  rw[<-od]at h ⊢;exact ArU m7 hu h) hv hr
 cases j with
 | zero =>
  simp only[List.getElem?_cons_zero,ka]at h1 h2;subst h1 h2;exact .ca (.agg _ _ q5)
 | succ j =>
  rw[List.getElem?_cons_succ,Fb]at h1 h2;cases uq:xs.toList[j]? with
  | none=>simp [uq]at h1
  | some x =>
   cases zu:q7[j]? with
   | none=>simp [zu]at h2
   | some y =>
    simp only[uq,zu,Qc,ka]at h1 h2;subst h1 h2;exact hx j x y uq zu
theorem AmC (hm:DR B S w0 m) (hs:E9 B S m ρ a.eval) {f:Nat} {x':BM} (h:C5 P num o.op (.Bo f x')=true) {c:AV} {cs:d_} (hc:ρ x' = .agg (c::cs)) :
  FE B S w0 P o a m (.val (.fn true f (num f) (c::cs))):=by
 obtain ⟨x,m7,he⟩:=Aqc h;obtain ⟨vs,hv,q5⟩:=rC (hc ▸ hs x x' he);refine HY hm (u := .func (.func (num f)) #[.agg vs.toArray] #[]) ?_ (.ca (.Cm f (num f) (c::cs) vs p_ q5));simp [execOp,m7,Instr.makeFunc,hv]
theorem Rd.to1 {w:World} {R R':Bool->Nat->Prop} (hR : ∀ l b,b<w.heap.size->R l b -> ∀ l',R' l' b) {c:AV} {v:Value} (h:Rd w R c v) (hq:LE c=true):Rd w R' (kZ c) v:=by
 cases h with
 | int k n=>exact .int k n
 | bool b=>exact .bool b
 | str s=>simp [LE]at hq
 | vz=>simp [LE]at hq
 | emp=>simp [LE]at hq
 | sj l a cap=>exact .sj false a cap
 | sl l es b o a9 cap u n6 hp h1 fk hz q5 hr =>
  obtain ⟨e,c,he,qf⟩:=mY n6 hp hz;have hb:b<w.heap.size:=eI (q5 0 e he 0 c qf);exact .sl false es b o a9 cap u n6 hp (hR l b hb h1 false) fk hz q5 λ i e he j c hj=>(hr i e he j c hj).mono (λ l b hb h=>hR l b hb h l) (λ_ _ _ _=>rfl)
theorem Rd.Jb {w:World} {R R':Bool->Nat->Prop} (hR : ∀ b,b<w.heap.size->R false b->R' true b) {c:AV} {v:Value} (h:Rd w R c v) (hc:CI c) (hf:lH c):Rd w R' (nG c) v:=by
 cases h with
 | int k n=>exact .int k n
 | bool b=>exact .bool b
 | str s=>exact hf.elim
 | vz=>exact hf.elim
 | emp=>exact hf.elim
 | sj l a cap=>exact .sj true a cap
 | sl l es b o a9 cap u n6 hp h1 fk hz q5 hr =>
  unfold CI at hc;obtain ⟨rfl,hc⟩:=hc;obtain ⟨e,c,he,qf⟩:=mY n6 hp hz;have hb:b<w.heap.size:=eI (q5 0 e he 0 c qf);refine .sl true es b o a9 cap u n6 hp (hR b hb h1) fk hz q5 λ i e he j c hj => ?_
  have Auy:=hf e (zM he) c (zM hj);have Nv:=hr i e he j c hj;generalize u i j=vv at Nv ⊢;cases Nv<;>first|exact .int _ _|exact .bool _|(simp [AfD]at Auy)
theorem Yy : ∀ l:d_,V6 l=l.map ML
 | []=>by simp [V6]
 | c::r=>by rw[V6,Yy r];rfl
theorem Afi : ∀ l:c_,W8 l=l.map λ e=>e.map ML
 | []=>by simp [W8]
 | c::r=>by rw[W8,Afi r,Yy];rfl
theorem Rd.Jd {w:World} {R R':Bool->Nat->Prop} (hR : ∀ b,b<w.heap.size->R false b->R' true b) {c:AV} {v:Value} (h:Rd w R c v):CI c->Rd w R' (ML c) v:=by
 induction h with
 | int k n=>intro _;exact .int k n
 | bool b=>intro _;exact .bool b
 | str s=>intro _;exact .str s
 | vz=>intro _;exact .vz
 | emp b a cap h=>intro _;exact .emp b a cap h
 | sj l a cap=>intro _;exact .sj true a cap
 | sl l es b o a9 cap u n6 hp h1 fk hz q5 hr ih =>
  intro hc;unfold CI at hc;obtain ⟨rfl,hc⟩:=hc;obtain ⟨e,c,he,qf⟩:=mY n6 hp hz;have hb:b<w.heap.size:=eI (q5 0 e he 0 c qf);have je : ∀ (i:Nat) (e':d_),(es.map λ e:d_=>e.map ML)[i]? = some e' -> ∃ e,es[i]? = some e/\e'=e.map ML:=λ i e' h=>by
   rw[Fb]at h;cases hi:es[i]? with
   | none=>simp [hi]at h
   | some e=>exact ⟨e,rfl,by simpa [hi] using h.symm⟩
  have vf : ∀ (e:d_) (j:Nat) (c':AV),(e.map ML)[j]? = some c' -> ∃ c,e[j]? = some c/\c'=ML c:=λ e j c' h=>by
   rw[Fb]at h;cases hi:e[j]? with
   | none=>simp [hi]at h
   | some c=>exact ⟨c,rfl,by simpa [hi] using h.symm⟩
  have key:=Rd.sl (w:=w) (R:=R') true (es.map λ e:d_=>e.map ML) b o a9 cap u (by simpa using n6) hp (hR b hb h1) (by simpa using fk)
   (λ e' qu=>by
    obtain ⟨e,he,rfl⟩:=List.mem_map.1 qu;rw[Ee];exact hz e he)
   (λ i e' hi j c' hj=>by
    obtain ⟨e,he,rfl⟩:=je i e' hi;obtain ⟨c,Hn,rfl⟩:=vf e j c' hj;exact q5 i e he j c Hn)
   (λ i e' hi j c' hj=>by
    obtain ⟨e,he,rfl⟩:=je i e' hi;obtain ⟨c,Hn,rfl⟩:=vf e j c' hj;exact ih i e he j c Hn (VZ (qX hc i e he) j c Hn))
  rw[Ee]at key;rw[ML,Afi];exact key
theorem Amm {C:Cl} (hC:LX P num C) (hm:DR B S w0 m) (hs:E9 B S m ρ a.eval) {f:Nat} {q7:List BM} (h:C5 P num o.op (.l7 f q7)=true) (hq:(q7.map ρ).all dq=true) {r:AV} (hr:C.pure f ((q7.map ρ).map Gv)=some r) (Aub:Q9 r\/dT r):FE B S w0 P o a m (.val (V7 r)):=by
 obtain ⟨xs,ts,m7,he⟩:=Ym (Ap2 h);obtain ⟨hl,hx⟩:=fJ hs he;have od:(xs.map a.eval)=(xs.toList.map a.eval).toArray:=by cases xs;simp
 have hR : ∀ l b,b<m.w.heap.size->safe B S m l b -> ∀ l',safe m.w.heap.size (safe B S m true) ⟨λ_ _=>none,BF.emp,m.w⟩ l' b:=λ l b hb h l' => .inl ⟨Xh h,hb⟩
 have hcell : ∀ (c:AV) (v:Value),CC B S m c v->LE c=true->Rd m.w (safe m.w.heap.size (safe B S m true) ⟨λ_ _=>none,BF.emp,m.w⟩) (kZ c) v:=λ c v hc hd=>by
  cases hc with
  | rd hr=>exact hr.to1 hR hd
  | nil=>exact .sj false none 0
  | row=>simp [LE]at hd
  | ptr=>simp [LE]at hd
  | af=>simp [LE]at hd
 have uc : ∀ (j:Nat) (c:AV) (v:Value),((q7.map ρ).map Gv)[j]? = some c->(xs.toList.map a.eval)[j]? = some v->CA m.w.heap.size (safe B S m true) ⟨λ_ _=>none,BF.emp,m.w⟩ c v:=by
  intro j c v hc zt;rw[Fb,Fb]at hc;rw[Fb]at zt;cases uq:xs.toList[j]? with
  | none=>simp [uq]at zt
  | some x =>
   cases zu:q7[j]? with
   | none=>simp [zu]at hc
   | some y =>
    simp [uq]at zt;simp [zu]at hc;subst zt hc;have dh:=hx j x y uq zu;have hd:dq (ρ y)=true:=Td.1 hq _ (List.mem_map_of_mem (zM zu));generalize ρ y=cy at dh hd ⊢;generalize a.eval x=vx at dh ⊢;cases dh with
    | any=>simp [dq,LE]at hd
    | e9=>simp [dq,LE]at hd
    | ca wq =>
     cases wq with
     | one hc1 =>
      have zi:LE cy=true/\Gv cy=kZ cy:=by
       cases hc1 with
       | rd hr=>cases hr<;>exact ⟨hd,rfl⟩
       | _=>exact ⟨hd,rfl⟩
      rw[zi.2];exact .one (.rd (hcell _ _ hc1 zi.1))
     | agg cs vs q5 =>
      refine .agg (cs.map kZ) vs ⟨by simpa using q5.1,λ k c' v' cn xd => ?_⟩;rw[Fb]at cn;cases ui:cs[k]? with
      | none=>simp [ui]at cn
      | some c0 =>
       simp [ui]at cn;subst cn;exact .rd (hcell c0 v' (q5.2 k c0 v' ui xd) (Td.1 hd _ (zM ui)))
     | fn=>simp [dq,LE]at hd
     | Cm=>simp [dq,LE]at hd
 have mq:=hC.pure f _ r hr (safe B S m true) m.w (xs.toList.map a.eval) (by simp [hl]) uc;intro K Q hK;unfold Oper.wp;rw[uA m7 (hC.Dg f _ r hr _ _),od];refine Calls.mono mq λ e w' ⟨u,qu,qt,dh,q5⟩ => ?_
 subst qu;obtain ⟨wy,oc⟩:=grow hm qt;refine hK u ⟨m.ν,m.own,w'⟩ rfl wy oc ?_;have qp : ∀ b,b<w'.heap.size->safe m.w.heap.size (safe B S m true) ⟨λ_ _=>none,BF.emp,w'⟩ false b->safe B S ⟨m.ν,m.own,w'⟩ true b:=λ b hb Im=>by
  rcases Im with ⟨h1,h2⟩|⟨h1,_⟩|⟨h1,_⟩
  ·exact oc.Kt true b h2 h1
  ·refine .inr (.inl ⟨Te hm.size h1,λ s t te hg => ?_⟩)
   obtain ⟨b',m9⟩:=ud.1 te;obtain ⟨_,arr,e,hh⟩:=hm.ge ⟨b',m9⟩ hg;have:=(jb.1 hh).1
   omega
  ·cases h1
 by_cases jk:Q9 r
 ·rw[Zb jk]
  rcases wU dh q5 with zk|⟨cs,vs,rfl,_⟩
  ·rcases zk with tk|⟨cs,vs,rfl,rfl,lv,hh⟩
   ·have e1:Iv r=nG r/\lH r:=by cases tk<;>exact ⟨rfl,jk⟩
    rw[show ET.valOf (.val (Iv r)) m.own=Iv r from rfl,e1.1];exact .ca (.one (.rd (tk.Jb qp q5 e1.2)))
   ·unfold CI at q5
    refine .ca (.agg (cs.map nG) vs ⟨by simpa using lv,λ k c' v' cn xd => ?_⟩);rw[Fb]at cn;cases ui:cs[k]? with
    | none=>simp [ui]at cn
    | some c0 =>
     simp [ui]at cn;subst cn;exact .rd ((hh k c0 v' ui xd).Jb qp (VZ q5 k c0 ui) (jk c0 (zM ui)))
  ·exact jk.elim
 ·rw[Za jk]
  have hd:=Aub.resolve_left jk;have py : ∀ {r:AV} {v:Value},DA w' (safe m.w.heap.size (safe B S m true) ⟨λ_ _=>none,BF.emp,w'⟩) r v->CI r->CA B S ⟨m.ν,m.own,w'⟩ (OT r) v:=λ{r v} zk q5=>by
   rcases zk with tk|⟨cs,vs,rfl,rfl,lv,hh⟩
   ·have e1:OT r=ML r:=by cases tk<;>rfl
    rw[e1];exact .one (.rd (tk.Jd qp q5))
   ·unfold CI at q5
    rw[show OT (.agg cs) = .agg (V6 cs) from rfl,Yy];refine .agg (cs.map ML) vs ⟨by simpa using lv,λ k c' v' cn xd => ?_⟩;rw[Fb]at cn;cases ui:cs[k]? with
    | none=>simp [ui]at cn
    | some c0 =>
     simp [ui]at cn;subst cn;exact .rd ((hh k c0 v' ui xd).Jd qp (VZ q5 k c0 ui))
  rcases wU dh q5 with zk|⟨cs,vs,rfl,rfl,lv,hh⟩
  ·have e1:SE r=OT r:=by
    rcases zk with tk|⟨cs,vs,rfl,_⟩
    ·cases tk<;>rfl
    ·rfl
   rw[show ET.valOf (.val (SE r)) m.own=SE r from rfl,e1];exact .ca (py zk q5)
  ·unfold CI at q5
   rw[show ET.valOf (.val (SE (.e9 cs))) m.own = .e9 (cs.map OT) from rfl];refine .e9 (cs.map OT) vs (by simpa using lv) λ k c' v' cn xd => ?_
   rw[Fb]at cn;cases ui:cs[k]? with
   | none=>simp [ui]at cn
   | some c0 =>
    simp [ui]at cn;subst cn;exact py (hh k c0 v' ui xd) (VZ q5 k c0 ui)
end
end Go.j4

namespace Go.j4
open Go.RowKit
section
variable {B:Nat} {S:Nat->Prop} {w0:World} {m:M}
variable {P:Program} {num:Nat->Nat} {o:Oper} {a:Act} {ρ:BM->AV} {C:Cl} {b8:a_}
theorem AmG (hm:DR B S w0 m) (hs:E9 B S m ρ a.eval) {mx:Bool} {q7:List BM} (h:C5 P num o.op (.mm mx q7)=true) {v r:AV} {l:d_} (hx:q7.map ρ=v::l) (hv:SI mx v l=some r):FE B S w0 P o a m (.val r):=by
 by_cases hi : ∃ k n,v = .int k n
 ·exact AmF hm hs h hx hv hi
 ·cases l with
  | cons u q =>
   simp only[SI]at hv;exfalso;cases v<;>first|(exact hi ⟨_,_,rfl⟩)|(simp [ZM]at hv)
  | nil =>
   simp only[SI,ka]at hv;subst hv;obtain ⟨xs,ts,m7,he⟩:=AeV h;cases q7 with
   | nil=>simp at hx
   | cons y yr =>
    simp only[Be,Gg,List.map_eq_nil_iff]at hx;obtain ⟨rfl,rfl⟩:=hx;obtain ⟨xl⟩:=xs;cases xl with
    | nil=>simp [H4]at he
    | cons x xr =>
     simp only[H4,Sb]at he;cases xr with
     | cons=>simp [H4]at he
     | nil =>
      refine HY hm (u:=a.eval x) ?_ (hs x y he.1);cases mx<;>simp [execOp,m7,resolve,invoke,builtin,Builtin.min_,Builtin.max_]
theorem AeB (o:BF) (l:a_) (s t:Nat) (b:HU) (h:(o.o5 l).get s t=some b):o.get s t=some b:=by
 induction l with
 | nil=>exact h
 | cons x r ih =>
  unfold BF.get BF.o5 at h;by_cases hs:s=x
  ·simp [hs]at h
  ·simp only[if_neg hs]at h
   exact ih h
theorem Aqq {o:BF} {l:a_} {s t i j n:Nat} {cs:d_} (h:(o.o5 l).As s t i j n=some cs):o.As s t i j n=some cs:=by
 unfold BF.As at *;cases hg:(o.o5 l).get s t with
 | none=>simp [hg]at h
 | some b =>
  rw[AeB o l s t b hg];simpa [hg] using h
theorem Anb {o:BF} {l:a_} {v:AV} {es:c_} (h:IU (o.o5 l) v=some es):IU o v=some es:=by
 cases v with
 | iz v=>cases v<;>exact h
 | row s t z off len =>
  simp only[IU]at h ⊢;cases hg:(o.o5 l).get s t with
  | none=>simp [hg]at h
  | some b =>
   rw[AeB o l s t b hg];simpa [hg] using h
 | _=>exact h
theorem kA {α β:Type} {f g:α->Option β} (hfg : ∀ x y,f x=some y->g x=some y) : ∀ {l:List α} {l':List β},l.mapM f=some l'->l.mapM g=some l'
 | [],l',h=>by simpa using h
 | x::r,l',h=>by
  simp only[cd,We,He]at h ⊢;cases hx:f x with
  | none=>simp [hx]at h
  | some y =>
   cases hr:r.mapM f with
   | none=>simp [hx,hr]at h
   | some r' =>
    simp [hx,hr]at h;simp [hfg x y hx,kA hfg hr,h]
theorem Abm (o:BF) (l:a_) (b:Bool) : ∀ (d:Nat) (c c':AV),snap (o.o5 l) b d c=some c'->snap o b d c=some c'
 | 0,c,c',h=>by cases c<;>simp_all [snap]
 | d+1,c,c',h=>by
  cases c<;>first|(simp_all [snap];done)|skip
  rename_i s t z off len;simp only[snap]at h ⊢;cases he:IU (o.o5 l) (.row s t z off len) with
  | none=>simp [he]at h
  | some es =>
   simp only[he]at h;rw[Anb he];simp only[Sa]at h ⊢;obtain ⟨es',h1,h2⟩:=h;exact ⟨es',kA (λ x y hx=>kA (Abm o l b d) hx) h1,h2⟩
theorem AgN (o:BF) (l:a_) (b:Bool) (c c':AV) (h:F4 (o.o5 l) b c=some c'):F4 o b c=some c':=by
 cases c<;>first|exact Abm o l b 6 _ _ h|skip
 simp only[F4,Sa]at h ⊢;obtain ⟨cs,h1,h2⟩:=h;exact ⟨cs,kA (Abm o l b 6) h1,h2⟩
theorem Asi (o:BF) (l:a_) (b:Bool) (c c':AV) (h:YK (o.o5 l) b c=some c'):YK o b c=some c':=by
 rcases Classical.em (c = .nil) with rfl|hc
 ·exact h
 ·have e : ∀ o:BF,YK o b c=F4 o b c:=λ o=>by cases c<;>first|rfl|exact (hc rfl).elim
  rw[e]at h ⊢;exact AgN o l b _ _ h
theorem AqC {o:BF} {l:a_} {b:Bool} {xs vs:d_} (h:xs.mapM (YK (o.o5 l) b)=some vs):xs.mapM (YK o b)=some vs:=kA (Asi o l b) h
theorem AqA {o:BF} {l:a_} {b:Bool} {xs vs:d_} (h:xs.mapM (F4 (o.o5 l) b)=some vs):xs.mapM (F4 o b)=some vs:=kA (AgN o l b) h
theorem Asz {own m8:BF} {s t i j:Nat} {vs:d_} (h:own.wg s t i j vs=some m8):own.put s (m8 s)=m8:=by
 unfold BF.wg at h;cases hg:own.get s t with
 | none=>simp [hg]at h
 | some b =>
  simp only[hg]at h;cases he:b.es[i]? with
  | none=>simp [he]at h
  | some cs =>
   simp only[he]at h;split at h
   ·obtain rfl:=Eb h
    rw[BF.l9]
   ·cases h
theorem Am9 (hC:LX P num C) (hm:DR B S w0 m) (hs:E9 B S m ρ a.eval) {Ou:HO} (j7:C5 P num o.op Ou=true) {E:ET} (h:g7 C b8 ρ m.own Ou=some E):FE B S w0 P o a m E:=by
 cases Ou with
 | w9 x=>simp only[g7,ka]at h;subst h;exact AmH hm hs j7
 | bu s z=>simp only[g7,ka]at h;subst h;exact AmN hm j7
 | pick c x y =>
  simp only[g7]at h;split at h
  ·rename_i hc;simp only[ka]at h;subst h;exact Adg hm hs j7 hc
  ·rename_i hc;simp only[ka]at h;subst h;exact Adg hm hs j7 hc
  ·cases h
 | bin f x y =>
  simp only[g7]at h;split at h
  ·rename_i k n k' n' hx hy
   simp only[Sa]at h;obtain ⟨v,hv,rfl⟩:=h;exact Amf hm hs j7 hx hy hv
  ·cases h
 | Bu ne n x y =>
  simp only[g7]at h;split at h
  ·rename_i cs ds hx hy
   split at h
   ·rename_i a b ha hb
    split at h
    ·rename_i hn
     simp only[ka]at h;subst h;exact Al9 hm hs j7 hx hy ha hb hn
    ·cases h
   ·cases h
  ·cases h
 | beq ne x y =>
  simp only[g7]at h;split at h
  ·rename_i b b' hx hy
   simp only[ka]at h;subst h;exact Ame hm hs j7 hx hy
  ·cases h
 | un f x =>
  simp only[g7,Sa]at h;obtain ⟨v,hv,rfl⟩:=h;exact AmM hm hs j7 hv
 | conv k x =>
  simp only[g7]at h;split at h
  ·rename_i k' n hx
   simp only[ka]at h;subst h;exact Amq hm hs j7 hx
  ·cases h
 | box s x =>
  simp only[g7]at h;split at h
  ·rename_i cs qj
   simp only[ka]at h;subst h;exact Amg hm hs j7 qj
  ·cases h
 | alloc s z=>simp only[g7,ka]at h;subst h;exact Ama hm j7
 | build z ps =>
  simp only[g7,Sa]at h;obtain ⟨cs,qj,rfl⟩:=h;exact Ami hm hs j7 qj
 | c8 s a9 ps =>
  simp only[g7]at h;split at h
  ·rename_i es qw
   split at h
   ·rename_i hz
    simp only[ka]at h;subst h;exact Amh hm hs j7 qw hz
   ·cases h
  ·cases h
 | dj x off =>
  simp only[g7]at h;split at h
  ·rename_i s t i j hx
   simp only[ka]at h;subst h;exact Amt hm hs j7 hx
  ·rename_i cs hx
   simp only[ka]at h;subst h;exact Ams hm hs j7 hx
  ·cases h
 | zf x off n agg =>
  simp only[g7]at h;split at h
  ·rename_i cs hx
   split at h
   ·rename_i ds hp
    simp only[Sa]at h;obtain ⟨v,hv,rfl⟩:=h;exact Amu hm hs j7 hx hp hv
   ·cases h
  ·cases h
 | cp arr a9 x i =>
  simp only[g7]at h;split at h
  ·rename_i k n hi
   split at h
   ·rename_i len s t i' j hx
    split at h
    ·rename_i hn
     simp only[ka]at h;subst h;exact Amv hm hs j7 hi hx hn.1 hn.2
    ·cases h
   ·rename_i len cs hx
    split at h
    ·rename_i hn
     simp only[ka]at h;subst h;exact Amw hm hs j7 hi hx hn.1 hn.2
    ·cases h
   ·rename_i s t z off len hx
    split at h
    ·rename_i hn
     simp only[ka]at h;subst h;exact Amx hm hs j7 hi hx hn.1 hn.2.1 hn.2.2
    ·cases h
   ·rename_i l es hx
    split at h
    ·rename_i h0
     split at h
     ·rename_i cs qj
      split at h
      ·rename_i hz
       simp only[ka]at h;subst h;exact Amy hm hs j7 hi hx h0 qj hz
      ·cases h
     ·cases h
    ·cases h
   ·cases h
  ·cases h
 | ld agg n x =>
  simp only[g7]at h;split at h
  ·rename_i s t i j hx
   split at h
   ·rename_i cs qj
    simp only[Sa]at h;obtain ⟨v,hv,rfl⟩:=h;exact Amz hm hs j7 hx (Aqq qj) hv
   ·cases h
  ·rename_i cs hx
   split at h
   ·rename_i ds hp
    simp only[Sa]at h;obtain ⟨v,hv,rfl⟩:=h;exact Adf hm hs j7 hx hp hv
   ·cases h
  ·cases h
 | Cz agg n x =>
  simp only[g7]at h;split at h
  ·rename_i cs hx
   split at h
   ·rename_i ds hp
    simp only[Sa]at h;obtain ⟨v,hv,rfl⟩:=h;exact Adf hm hs (show C5 P num _ (.ld agg n x)=true from j7) hx hp hv
   ·cases h
  ·cases h
 | st n x v =>
  simp only[g7]at h;split at h
  ·rename_i s t i j vs hx pg
   split at h
   ·rename_i hn
    simp only[Sa]at h;obtain ⟨m8,ho,rfl⟩:=h;exact Adk hm hs j7 hx pg hn ho
   ·cases h
  ·cases h
 | mk s a9 bytes zero l c =>
  simp only[g7]at h;split at h
  ·rename_i kl a' kc b' hl hc
   split at h
   ·rename_i hn
    simp only[ka]at h;subst h;exact AmB hm hs j7 hl hc hn.1 hn.2.1 hn.2.2.1 hn.2.2.2.1 hn.2.2.2.2
   ·cases h
  ·cases h
 | pn a9 x lo hi =>
  simp only[g7]at h;have bnd : ∀ (d:Nat) (y:Option BM) (q:Nat),(match y with|none=>some d|some o=>match ρ o with | .int _ n=>if 0<=n/\n<=d then some n.toNat else none|_=>none)=some q -> ∃ n:Int,M9 ρ d y=some n/\0<=n/\n<=d/\q=n.toNat:=λ d y q hq=>by
   cases y with
   | none=>simp only[ka]at hq;subst hq;exact ⟨d,rfl,D',D',p_⟩
   | some y =>
    simp only at hq;cases hy:ρ y with
    | int k n =>
     simp only[hy]at hq;split at hq
     ·rename_i hn
      simp only[ka]at hq;subst hq;exact ⟨n,by simp [M9,hy],hn.1,hn.2,rfl⟩
     ·cases hq
    | _=>simp [hy]at hq
  have Rh : ∀ (y:Option BM) (q:Nat),(match y with|none=>some 0|some o=>match ρ o with | .int _ n=>if 0<=n then some n.toNat else none|_=>none)=some q -> ∃ n:Int,M9 ρ 0 y=some n/\0<=n/\q=n.toNat:=λ y q hq=>by
   cases y with
   | none=>simp only[ka]at hq;subst hq;exact ⟨0,rfl,D',p_⟩
   | some y =>
    simp only at hq;cases hy:ρ y with
    | int k n =>
     simp only[hy]at hq;split at hq
     ·rename_i hn
      simp only[ka]at hq;subst hq;exact ⟨n,by simp [M9,hy],hn,rfl⟩
     ·cases hq
    | _=>simp [hy]at hq
  have Ri : ∀ (y:Option BM) (q:Nat),(match y with|none=>some 0|some o=>match ρ o with | .int _ n=>if n=0 then some 0 else none|_=>none)=some q->M9 ρ 0 y=some 0:=λ y q hq=>by
   cases y with
   | none=>rfl
   | some y =>
    simp only at hq;cases hy:ρ y with
    | int k n =>
     simp only[hy]at hq;split at hq
     ·rename_i hn
      subst hn;simp [M9,hy]
     ·cases hq
    | _=>simp [hy]at hq
  split at h
  ·rename_i l es hx
   split at h
   ·rename_i q1 q2 h1 h2
    split at h
    ·rename_i hq
     simp only[ka]at h;subst h;obtain ⟨n1,b1,c1,rfl⟩:=Rh _ _ h1;obtain ⟨n2,b2,c2,c3,rfl⟩:=bnd _ _ _ h2;exact AmL hm hs j7 hx b1 b2 c1 D' c3 hq.2
    ·cases h
   ·cases h
  ·rename_i hx
   split at h
   ·rename_i q1 q2 h1 h2
    simp only[ka]at h;subst h;exact AmJ hm hs j7 hx (Ri _ _ h1) (Ri _ _ h2)
   ·cases h
  ·rename_i s t z off len hx
   split at h
   ·rename_i q1 q2 h1 h2
    split at h
    ·rename_i hq
     simp only[ka]at h;subst h;obtain ⟨n1,b1,c1,rfl⟩:=Rh _ _ h1;obtain ⟨n2,b2,c2,c3,rfl⟩:=bnd _ _ _ h2;exact AmK hm hs j7 hx b1 b2 c1 D' c3 hq.2
    ·cases h
   ·cases h
  ·cases h
 | ext x i =>
  simp only[g7]at h;split at h
  ·rename_i vs hx
   simp only[Sa]at h;obtain ⟨v,hv,rfl⟩:=h;exact Amr hm hs j7 hx hv
  ·cases h
 | len x =>
  simp only[g7]at h;split at h
  ·rename_i n hn
   simp only[ka]at h;subst h;exact AmA hm hs j7 hn
  ·cases h
 | mm mx xs =>
  simp only[g7]at h;split at h
  ·cases h
  ·rename_i v r hx
   simp only[Sa]at h;obtain ⟨q,hq,rfl⟩:=h;exact AmG hm hs j7 hx hq
 | app s a9 bytes x y =>
  simp only[g7]at h;split at h
  ·rename_i ys Et
   split at h
   ·rename_i hz
    split at h
    ·rename_i s' t z len hx
     split at h
     ·rename_i b hb
      split at h
      ·rename_i hn
       obtain ⟨n1,rfl,n3,n4,n5⟩:=hn;simp only[ka]at h;subst h;exact Amc hm hs j7 Et hz hx hb n1 n3 n4 n5
      ·cases h
     ·cases h
    ·rename_i hx
     split at h
     ·rename_i hn
      simp only[ka]at h;subst h;exact Amb hm hs j7 Et hz hx hn.1 hn.2
     ·cases h
    ·cases h
   ·cases h
  ·cases h
 | call f xs =>
  simp only[g7]at h;split at h
  ·rename_i vs pg
   simp only[Sa]at h;obtain ⟨r,hr,rfl⟩:=h;exact Amj hC hm hs j7 (AqA pg) hr
  ·cases h
 | j5 f xs =>
  simp only[g7]at h;split at h
  ·simp only[Sa]at h
   obtain ⟨r,hr,rfl⟩:=h;exact xS hC hm hs j7 ((qQ hr).2 m.own λ_ _=>rfl)
  ·simp only[Sa]at h
   obtain ⟨r,hr,rfl⟩:=h;exact xS hC hm hs j7 hr
 | Cg ne x =>
  simp only[g7]at h;split at h
  ·rename_i hx
   simp only[ka]at h;subst h;exact rN hm hs j7 (b:=true) λ v hv=>by rw[hx]at hv;exact ⟨none,0,0,aH hv,rfl⟩
  ·rename_i b hx
   simp only[ka]at h;subst h;exact rN hm hs j7 (b:=b) λ v hv=>by
    rw[hx]at hv;obtain ⟨ad,c,h1,h2⟩:=AcZ hv;exact ⟨ad,0,c,h1,h2⟩
  ·rename_i hx
   simp only[ka]at h;subst h;exact rN hm hs j7 (b:=false) λ v hv=>by rw[hx]at hv;exact AlK hv
  ·rename_i hx
   simp only[ka]at h;subst h;exact rN hm hs j7 (b:=false) λ v hv=>by rw[hx]at hv;exact AlJ hv
  ·cases h
 | bad =>
  have h:(none:Option ET)=some E:=h;cases h
 | mj x =>
  simp only[g7]at h;split at h
  ·rename_i hx
   simp only[ka]at h;subst h;exact Amp hm hs j7 hx
  ·cases h
 | iy s f xs =>
  simp only[g7,Sa]at h;obtain ⟨p,hp,rfl⟩:=h;exact xS hC hm hs (Ap4 j7) (qS.1 hp m.own rfl)
 | yx s a9 bytes x y =>
  simp only[g7]at h;split at h
  ·rename_i k n hx hy
   split at h
   ·rename_i hn
    simp only[ka]at h;subst h;exact Amd hm hs j7 hx hy hn.1 hn.2.1 hn.2.2
   ·cases h
  ·cases h
 | oz tb x =>
  simp only[g7]at h;split at h
  ·rename_i k n hx
   split at h
   ·rename_i h0
    split at h
    ·rename_i v hv
     simp only[ka]at h;subst h;exact AmI hm hs j7 hx h0 hv
    ·cases h
   ·cases h
  ·cases h
 | Au p f xs =>
  simp only[g7,Sa]at h;obtain ⟨cs,qj,rfl⟩:=h;rw[hC.num];exact AmD hm hs j7 qj
 | Bo f x =>
  simp only[g7]at h;split at h
  ·rename_i c cs hx
   simp only[ka]at h;subst h;rw[hC.num];exact AmC hm hs j7 hx
  ·cases h
 | l7 f xs =>
  simp only[g7]at h;split at h
  ·rename_i hq
   split at h
   ·rename_i r hr
    split at h
    ·rename_i jk
     simp only[ka]at h;subst h;exact Amm hC hm hs j7 hq hr jk
    ·cases h
   ·cases h
  ·cases h
 | bf s f xs =>
  simp only[g7]at h;split at h
  ·rename_i vs pg
   simp only[Sa]at h;obtain ⟨⟨z,es⟩,hr,rfl⟩:=h;exact Amn hC hm hs j7 (AqC pg) hr
  ·cases h
 | ym s n x v =>
  simp only[g7]at h;split at h
  ·rename_i s' t i j vs hx pg
   split at h
   ·rename_i hn
    obtain ⟨rfl,hn⟩:=hn;simp only[Sa]at h;obtain ⟨m8,ho,rfl⟩:=h;have:=Adk hm hs (Aqi j7) hx pg hn ho
    intro K Q hK;refine this K Q λ u m' h1 h2 h3 h4=>hK u m' ?_ h2 h3 h4
    rw[h1];exact (Asz ho).symm
   ·cases h
  ·cases h
 | q6 x xs =>
  simp only[g7]at h;split at h
  ·rename_i p f g cs hx
   split at h
   ·rename_i hg
    rw[hC.num]at hg;subst hg;split at h
    ·split at h
     ·rename_i vs pg
      simp only[Sa]at h;obtain ⟨r,hr,rfl⟩:=h;exact Aml hC hm hs j7 hx pg hr
     ·cases h
    ·simp only[Sa]at h
     obtain ⟨r,hr,rfl⟩:=h;exact Amo hC hm hs j7 hx hr
    ·split at h
     ·rename_i vs pg
      simp only[Sa]at h;obtain ⟨r,hr,rfl⟩:=h;exact Amk hC hm hs j7 hx pg hr
     ·cases h
   ·cases h
  ·cases h
end
end Go.j4

namespace Go.j4
open Go.RowKit
def IE (T:Nat->AV):BM->AV
 | .t n=>T n
 | .c v=>v
def Q4 (T:Nat->AV) (d:Option Nat) (v:AV):Nat->AV:=λ j=>if d=some j then v else T j
def V5 (T:Nat->AV):Option (Nat × Bool)->Option Bool
 | none=>some true
 | some (g,want)=>match T g with
  | .bool b=>some (b == want)
  | .e9 []=>some false
  | _=>none
theorem AdL (st:St):st.ev=IE (j6 st.tm):=by funext x;cases x<;>rfl
theorem Aph (st:St) (g:Option (Nat × Bool)):JP st g=V5 (j6 st.tm) g:=rfl
theorem Adt (st:St) (d:Option Nat) (v:AV):j6 (st.dst d v).tm=Q4 (j6 st.tm) d v:=by
 cases d with
 | none=>funext j;simp [St.dst,Q4]
 | some d =>
  funext j
  simp only[St.dst,Q4,pE];by_cases h:j=d
  ·simp [h]
  ·simp [h,Ne.symm h]
theorem AkE (st:St) (d:Option Nat) (E:ET):j6 (st.app d E).tm=Q4 (j6 st.tm) d (E.valOf st.own):=by
 cases E<;>simp only[St.app,ET.valOf]<;>exact Adt st d _
theorem Adu (st:St) (d:Option Nat) (v:AV):(st.dst d v).own=st.own:=by cases d<;>rfl
theorem AkD (st:St) (d:Option Nat) (E:ET):(st.app d E).own=E.dm st.own:=by
 cases E with
 | val v=>simp only[St.app,ET.dm];exact Adu st d v
 | _=>rfl
section
variable {B:Nat} {S:Nat->Prop} {w0:World} {m0:M} {N:Nat}
variable {P:Program} {num:Nat->Nat} {C:Cl} {Q:Exit->Act->World->Prop}
structure J2 (B:Nat) (S:Nat->Prop) (w0:World) (m0:M) (N:Nat) (T:Nat->AV) (m:M) (a:Act):Prop where
 mem:DR B S w0 m
 ext:GY B S m0 m
 tm : ∀ i,CV B S m (T i) (a.tmps.getD i undef)
 size:a.tmps.size=N
 defers:a.defers=[]
theorem J2.put {T:Nat->AV} {m m':M} {a:Act} (h:J2 B S w0 m0 N T m a) (d:Option Nat) (hd : ∀ k,d=some k->k<N) {v:AV} {u:Value} (hm:DR B S w0 m') (he:GY B S m m') (hc:CV B S m' v u):J2 B S w0 m0 N (Q4 T d v) m' (a.put d u):=by
 refine ⟨hm,h.ext.trans he,λ i => ?_,?_,?_⟩
 ·cases d with
  | none=>simpa [Q4,Act.put] using he.cv (h.tm i)
  | some k =>
   have hk:k<a.tmps.size:=by rw[h.size];exact hd k rfl
   by_cases uk:i=k
   ·subst uk
    simp only[Q4,if_true,Act.put];simpa [pd,hk] using hc
   ·have n6 : ¬ (some k=some i):=λ e=>uk (by simpa using e.symm)
    simp only[Q4,if_neg n6,Act.put];have:(a.tmps.setIfInBounds k u).getD i undef=a.tmps.getD i undef:=by
     simp [Array.getElem?_setIfInBounds_ne (Ne.symm uk)]
    rw[this];exact he.cv (h.tm i)
 ·cases d<;>simp [Act.put,h.size]
 ·cases d<;>simpa [Act.put] using h.defers
theorem J2.says {T:Nat->AV} {m:M} {a:Act} (h:J2 B S w0 m0 N T m a):E9 B S m (IE T) a.eval:=Ar0 (λ_=>rfl) (λ_=>rfl) h.tm
theorem As1 {T:Nat->AV} {m:M} {a:Act} (h:J2 B S w0 m0 N T m a) {ops:Array Oper} {o:Oper} {g':Option (Nat × Bool)} (hg:nK ops o.guard g'=true) {g:Bool} (Cb:V5 T g'=some g):Region.wanted o (yielded ops a.tmps)=g:=by
 unfold Region.wanted;cases hog:o.guard with
 | none =>
  cases g' with
  | none=>simp [V5]at Cb;simp [Cb]
  | some _=>simp [nK,hog]at hg
 | some jw =>
  obtain ⟨j,want⟩:=jw;cases g' with
  | none=>simp [nK,hog]at hg
  | some tw =>
   obtain ⟨t,ACQ⟩:=tw;simp only[nK,hog,Sb,beq_iff_eq]at hg;obtain ⟨rfl,hg⟩:=hg;split at hg
   ·rename_i oj Py
    have At5:oj.dst=some t:=by simpa using hg
    have dh:=h.tm t;simp only[V5]at Cb;unfold yielded;simp only[Py,Qg,At5];split at Cb
    ·rename_i b hb
     rw[hb]at dh;have hv:=eT dh;have u6:a.tmps[t]? = some (.bool b):=by
      cases ht:a.tmps[t]? with
      | none=>simp [ht,undef]at hv
      | some x=>simp [ht]at hv;rw[hv]
     simp only[u6];simp at Cb;rw[<-Cb];cases b<;>cases want<;>rfl
    ·rename_i hb
     rw[hb]at dh;obtain ⟨vs,hv,hl,_⟩:=wZ dh;have:vs=[]:=zc (by simpa using hl.symm)
     subst this;simp at Cb;subst Cb;cases ht:a.tmps[t]? with
     | none=>rfl
     | some x =>
      simp [ht]at hv;subst hv;rfl
    ·cases Cb
   ·cases hg
theorem AhP (hC:LX P num C) {ops:Array Oper} {i:Nat} {o:Oper} {ai:AI} (hi:ops[i]? = some o) (j7:tD P num N ops o ai=true) {T:Nat->AV} {m:M} {a:Act} (hf:J2 B S w0 m0 N T m a) {g:Bool} (hg:V5 T ai.guard=some g) {E:ET}
  (hE:g=true->g7 C ai.b8 (IE T) m.own ai.op=some E) {K:Act->World->Prop} (hK : ∀ m' a',m'.own=(if g then E.dm m.own else m.own)->J2 B S w0 m0 N (Q4 T ai.dst (if g then E.valOf m.own else .e9 [])) m' a'->K a' m'.w):wpOp P ops Q i K a m.w:=by
 simp only[tD,Sb,beq_iff_eq]at j7;obtain ⟨⟨⟨h1,h2⟩,h3⟩,h4⟩:=j7;have hd : ∀ k,o.dst=some k->k<N:=λ k hk=>by
  rw[h1]at hk;rw[hk]at h2;simpa using h2
 unfold wpOp;simp only[hi,As1 hf h3 hg];cases g with
 | true =>
  simp only[if_true];refine .inl (Am9 hC hf.mem hf.says h4 (hE rfl) K Q λ u m' m5 wy oc dh => ?_);refine hK m' _ (by simpa using m5) ?_;rw[<-h1];exact hf.put o.dst hd wy oc dh
 | false =>
  simp only[Sc,if_false];refine hK m _ p_ ?_;rw[<-h1];exact hf.put o.dst hd hf.mem (GY.refl m) Afp
theorem Ag0 {o:AI} {st k8:St} (h:FY C o st=some k8) : ∃ g E,V5 (j6 st.tm) o.guard=some g/\(g=true->g7 C o.b8 (IE (j6 st.tm)) st.own o.op=some E)/\j6 k8.tm=Q4 (j6 st.tm) o.dst (if g then E.valOf st.own else .e9 [])/\k8.own=(if g then E.dm st.own else st.own):=by
 unfold FY at h;rw[Aph]at h;cases hg:V5 (j6 st.tm) o.guard with
 | none=>simp [hg]at h
 | some g =>
  cases g with
  | true =>
   simp only[hg,Sa]at h;obtain ⟨E,hE,rfl⟩:=h;rw[AdL]at hE;exact ⟨true,E,rfl,λ_=>hE,AkE st o.dst E,AkD st o.dst E⟩
  | false =>
   simp only[hg,ka]at h;subst h;exact ⟨false,.val .any,rfl,λ h=>(by cases h),Adt st o.dst _,Adu st o.dst _⟩
theorem nL {ops:Array Oper} : ∀ {os:List Oper} {l:List AI},ZO P num N ops os l=true->os.length=l.length /\ ∀ (i:Nat) (o:Oper) (x:AI),os[i]? = some o->l[i]? = some x->tD P num N ops o x=true
 | [],[],_=>⟨rfl,λ i o x h=>by simp at h⟩
 | o::r,x::l,h=>by
  simp only[ZO,Sb]at h;obtain ⟨h1,h2⟩:=nL h.2;refine ⟨by simp [h1],λ i o' x' ho hx => ?_⟩;cases i with
  | zero=>simp at ho hx;subst ho hx;exact h.1
  | succ i=>exact h2 i o' x' (by simpa using ho) (by simpa using hx)
 | [],_::_,h=>by simp [ZO]at h
 | _::_,[],h=>by simp [ZO]at h
theorem AhQ (hC:LX P num C) {ops:Array Oper} {l:List AI} (j7:ZO P num N ops ops.toList l=true) : ∀ (n k:Nat) (st k8:St) (m:M) (a:Act),n+k=ops.size->F9 C (l.drop k) st=some k8->m.own=st.own->J2 B S w0 m0 N (j6 st.tm) m a ->
  (∀ m' a',m'.own=k8.own->J2 B S w0 m0 N (j6 k8.tm) m' a'->Q .normal a' m'.w)->wpOps P ops Q (List.range' k n) a m.w
 | 0,k,st,k8,m,a,hk,hs,m5,hf,hQ=>by
  have hl:=(nL j7).1;simp at hl;rw[List.drop_eq_nil_of_le D']at hs;simp only[F9,ka]at hs;subst hs;simpa [wpOps] using hQ m a m5 hf
 | n+1,k,st,k8,m,a,hk,hs,m5,hf,hQ=>by
  obtain ⟨hl,hg⟩:=nL j7;simp at hl;have Ae:k<l.length:=D'
  have hko:k<ops.size:=D'
  rw[Lf Ae]at hs;simp only[F9]at hs;cases m4:FY C l[k] st with
  | none=>simp [m4]at hs
  | some C3 =>
   simp only[m4]at hs;obtain ⟨g,E,h1,h2,h3,h4⟩:=Ag0 m4;rw[List.range'_succ,wpOps_cons];have hoi:ops[k]? = some ops[k]:=Oe hko;refine AhP hC hoi (hg k ops[k] l[k] (by simp [hko]) (zE Ae)) hf h1 (λ lq=>by rw[m5];exact h2 lq) λ m' a' uo yd => ?_
   refine AhQ hC j7 n (k+1) C3 k8 m' a' D' hs ?_ ?_ hQ
   ·rw[uo,m5,h4]
   ·rw[m5]at yd
    rw[h3];exact yd
end
end Go.j4

namespace Go.j4
open Go.RowKit
section
variable {T T':Nat->AV} {C:Cl} {b8:a_} {own:BF}
theorem GQ {x:BM} (h : ∀ t∈FN x,T t=T' t):IE T x=IE T' x:=by
 cases x with
 | t n=>exact h n (by simp [FN])
 | c v=>rfl
theorem gG {xs:List BM} (h : ∀ t∈xs.flatMap FN,T t=T' t):xs.map (IE T)=xs.map (IE T') :=
 Wg λ x hx=>GQ λ t ht=>h t (Je.2 ⟨x,hx,ht⟩)
theorem AfO {x:Option BM} (h : ∀ t∈Ya x,T t=T' t) {y:BM} (hy:x=some y):IE T y=IE T' y:=by
 subst hy;exact GQ h
theorem Am4 {op:HO} (h : ∀ t∈M4 op,T t=T' t):g7 C b8 (IE T) own op=g7 C b8 (IE T') own op:=by
 cases op with
 | build z ps =>
  simp only[g7];congr 2;refine Wg λ p hp => ?_
  rw[GQ (x:=p.2.2) λ t ht=>h t (by simp only[M4];exact Je.2 ⟨p,hp,ht⟩)]
 | c8 s a9 ps =>
  have hm:ps.mapM (λ x=>cellsOf (IE T x))=ps.mapM (λ x=>cellsOf (IE T' x)):=by
   have e : ∀ l:List BM,(∀ x∈l,IE T x=IE T' x)->l.mapM (λ x=>cellsOf (IE T x))=l.mapM (λ x=>cellsOf (IE T' x)):=by
    intro l;induction l with
    | nil=>intro _;rfl
    | cons x r ih=>intro hl;simp only[cd];rw[hl x p_,ih λ y hy=>hl y (by simp [hy])]
   exact e ps λ x hx=>GQ λ t ht=>h t (by simp only[M4];exact Je.2 ⟨x,hx,ht⟩)
  simp only[g7,hm]
 | mm mx xs=>simp only[g7];rw[gG (xs:=xs) h]
 | call f xs=>simp only[g7];rw[gG (xs:=xs) h]
 | j5 f xs=>simp only[g7];rw[gG (xs:=xs) h]
 | Cg ne x=>simp only[g7];rw[GQ (x:=x) h]
 | bad=>rfl
 | mj x=>simp only[g7];rw[GQ (x:=x) h]
 | yx s a9 bytes x y =>
  simp only[M4,Oc]at h;simp only[g7];rw[GQ (x:=x) λ t ht=>h t (.inl ht),GQ (x:=y) λ t ht=>h t (.inr ht)]
 | oz tb x=>simp only[g7];rw[GQ (x:=x) h]
 | Au p f xs =>
  have e : ∀ l:List BM,(∀ x∈l,IE T x=IE T' x)->l.mapM (λ x=>LT (IE T x))=l.mapM (λ x=>LT (IE T' x)):=by
   intro l;induction l with
   | nil=>intro _;rfl
   | cons x r ih=>intro hl;simp only[cd];rw[hl x p_,ih λ y hy=>hl y (by simp [hy])]
  simp only[g7];rw[e xs λ x hx=>GQ λ t ht=>h t (by simp only[M4];exact Je.2 ⟨x,hx,ht⟩)]
 | Bo f x=>simp only[g7];rw[GQ (x:=x) h]
 | l7 f xs=>simp only[g7];rw[gG (xs:=xs) h]
 | bf s f xs=>simp only[g7];rw[gG (xs:=xs) h]
 | iy s f xs=>simp only[g7];rw[gG (xs:=xs) h]
 | ym s n x v =>
  simp only[M4,Oc]at h;simp only[g7];rw[GQ (x:=x) λ t ht=>h t (.inl ht),GQ (x:=v) λ t ht=>h t (.inr ht)]
 | q6 x xs =>
  simp only[M4,Oc]at h;simp only[g7];rw[GQ (x:=x) λ t ht=>h t (.inl ht),gG (xs:=xs) λ t ht=>h t (.inr ht)]
 | pn a9 x lo hi =>
  simp only[M4,Oc]at h;have hx:IE T x=IE T' x:=GQ λ t ht=>h t (.inl (.inl ht))
  have zn : ∀ y,lo=some y->IE T y=IE T' y:=λ y hy=>AfO (λ t ht=>h t (.inl (.inr ht))) hy
  have Wb : ∀ y,hi=some y->IE T y=IE T' y:=λ y hy=>AfO (λ t ht=>h t (.inr ht)) hy
  simp only[g7,hx];cases lo with
  | none=>cases hi with
   | none=>rfl
   | some y=>simp only[Wb y rfl]
  | some z=>cases hi with
   | none=>simp only[zn z rfl]
   | some y=>simp only[zn z rfl,Wb y rfl]
 | bu=>rfl
 | alloc=>rfl
 | w9 x=>simp only[g7];rw[GQ (x:=x) h]
 | un f x=>simp only[g7];rw[GQ (x:=x) h]
 | conv k x=>simp only[g7];rw[GQ (x:=x) h]
 | box s x=>simp only[g7];rw[GQ (x:=x) h]
 | dj x off=>simp only[g7];rw[GQ (x:=x) h]
 | zf x off n agg=>simp only[g7];rw[GQ (x:=x) h]
 | ld agg n x=>simp only[g7];rw[GQ (x:=x) h]
 | Cz agg n x=>simp only[g7];rw[GQ (x:=x) h]
 | ext x i=>simp only[g7];rw[GQ (x:=x) h]
 | len x=>simp only[g7];rw[GQ (x:=x) h]
 | pick c x y =>
  simp only[M4,Oc]at h;simp only[g7];rw[GQ (x:=c) λ t ht=>h t (.inl (.inl ht)),GQ (x:=x) λ t ht=>h t (.inl (.inr ht)),GQ (x:=y) λ t ht=>h t (.inr ht)]
 | bin f x y =>
  simp only[M4,Oc]at h;simp only[g7];rw[GQ (x:=x) λ t ht=>h t (.inl ht),GQ (x:=y) λ t ht=>h t (.inr ht)]
 | Bu ne n x y =>
  simp only[M4,Oc]at h;simp only[g7];rw[GQ (x:=x) λ t ht=>h t (.inl ht),GQ (x:=y) λ t ht=>h t (.inr ht)]
 | beq ne x y =>
  simp only[M4,Oc]at h;simp only[g7];rw[GQ (x:=x) λ t ht=>h t (.inl ht),GQ (x:=y) λ t ht=>h t (.inr ht)]
 | cp arr a9 x i =>
  simp only[M4,Oc]at h;simp only[g7];rw[GQ (x:=x) λ t ht=>h t (.inl ht),GQ (x:=i) λ t ht=>h t (.inr ht)]
 | st n x v =>
  simp only[M4,Oc]at h;simp only[g7];rw[GQ (x:=x) λ t ht=>h t (.inl ht),GQ (x:=v) λ t ht=>h t (.inr ht)]
 | mk s a9 bytes z l c =>
  simp only[M4,Oc]at h;simp only[g7];rw[GQ (x:=l) λ t ht=>h t (.inl ht),GQ (x:=c) λ t ht=>h t (.inr ht)]
 | app s a9 bytes x y =>
  simp only[M4,Oc]at h;simp only[g7];rw[GQ (x:=x) λ t ht=>h t (.inl ht),GQ (x:=y) λ t ht=>h t (.inr ht)]
theorem AeL (o:BF) (l:a_) (s:Nat):o.o5 l s=if s∈l then ⟨0,λ_=>none⟩ else o s:=by
 induction l with
 | nil=>simp [BF.o5]
 | cons x r ih =>
  simp only[BF.o5,Ce];by_cases h:s=x
  ·simp [h]
  ·rw[if_neg h,ih]
   simp [h]
theorem ApL {o o':BF} {l:a_} (h : ∀ s,s ∉ l->o s=o' s):o.o5 l=o'.o5 l:=by
 funext s
 rw[AeL,AeL];split
 ·rfl
 ·rename_i hs;exact h s hs
end
section
variable {ops:Array Oper}
def inner (acc:Array Nat) (o:Oper):Nat:=o.after.foldl (λ s e=>if Region.binds .any e then s ||| 2^e.on ||| acc.getD e.on 0 else s) 0
theorem ApR (acc:Array Nat) (o:Oper) (j:Nat) (h:(inner acc o).testBit j=true) : ∃ e∈o.after,Region.binds .any e=true/\(e.on=j\/(acc.getD e.on 0).testBit j=true):=by
 unfold inner at h;rw[<-Sg]at h;have key : ∀ (l:List Edge) (s:Nat),(l.foldl (λ s e=>if Region.binds .any e then s ||| 2^e.on ||| acc.getD e.on 0 else s) s).testBit j=true->s.testBit j=true \/ ∃ e∈l,Region.binds .any e=true/\(e.on=j\/(acc.getD e.on 0).testBit j=true):=by
  intro l;induction l with
  | nil=>intro s hs;exact .inl hs
  | cons e r ih =>
   intro s hs;simp only[Hg]at hs;rcases ih _ hs with h1|⟨e',qu,h2⟩
   ·by_cases hb:Region.binds .any e=true
    ·simp only[hb,if_true,Nat.testBit_or,Hd,Nat.testBit_two_pow,decide_eq_true_eq]at h1
     rcases h1 with (h1|h1)|h1
     ·exact .inl h1
     ·exact .inr ⟨e,p_,hb,.inl h1⟩
     ·exact .inr ⟨e,p_,hb,.inr h1⟩
    ·simp only[hb,Sc,if_false]at h1
     exact .inl h1
   ·exact .inr ⟨e',by simp [qu],h2⟩
 rcases key _ _ h with h|⟨e,he,h⟩
 ·simp at h
 ·exact ⟨e,by simpa using he,h⟩
theorem AkH (i j:Nat) (h:((Region.before ops).getD i 0).testBit j=true) : ∃ o,ops[i]? = some o /\ ∃ e∈o.after,Region.binds .any e=true/\(e.on=j\/(e.on<i/\((Region.before ops).getD e.on 0).testBit j=true)):=by
 have key : ∀ (rest:List Oper) (done:List Oper) (acc:Array Nat),acc.size=done.length ->
   (∀ i j,(acc.getD i 0).testBit j=true -> ∃ o,done[i]? = some o /\ ∃ e∈o.after,Region.binds .any e=true/\(e.on=j\/(e.on<i/\(acc.getD e.on 0).testBit j=true))) ->
   ∀ i j,((rest.foldl (λ acc o=>acc.push (inner acc o)) acc).getD i 0).testBit j=true -> ∃ o,(done++rest)[i]? = some o /\ ∃ e∈o.after,Region.binds .any e=true/\(e.on=j\/(e.on<i/\((rest.foldl (λ acc o=>acc.push (inner acc o)) acc).getD e.on 0).testBit j=true)):=by
  intro rest;induction rest with
  | nil=>intro done acc hs hinv i j hj;simpa using hinv i j hj
  | cons o r ih =>
   intro done acc hs hinv i j hj;simp only[Hg]at hj ⊢;have:=ih (done++[o]) (acc.push (inner acc o)) (by simp [hs]) (λ i j lu => ?_) i j hj
   ·simpa using this
   ·have u6 : ∀ k,k<acc.size->(acc.push (inner acc o)).getD k 0=acc.getD k 0:=λ k hk=>by
     simp [pd,hk,Nat.lt_succ_of_lt hk,Array.getElem_push_lt hk]
    by_cases hi:i<acc.size
    ·rw[u6 i hi]at lu
     obtain ⟨o',Ih,e,he,hb,gn⟩:=hinv i j lu;refine ⟨o',by rw[Vc D'];exact Ih,e,he,hb,gn.imp id λ⟨h1,h2⟩=>⟨h1,by rw[u6 e.on D'];exact h2⟩⟩
    ·have hie:i=acc.size:=by
      rcases Bf i (acc.push (inner acc o)).size with h1|h1
      ·simp at h1;omega
      ·have:(acc.push (inner acc o)).getD i 0=0:=by simp [pd];intro h2;simp at h1;omega
       rw[this]at lu;simp at lu
     subst hie;have vm:(acc.push (inner acc o)).getD acc.size 0=inner acc o:=by simp [pd]
     rw[vm]at lu;obtain ⟨e,he,hb,gn⟩:=ApR acc o j lu;refine ⟨o,by rw[hs];simp,e,he,hb,gn.imp id λ h2 => ?_⟩;have n7:e.on<acc.size:=by
      rcases Bf e.on acc.size with h3|h3
      ·exact h3
      ·have:acc.getD e.on 0=0:=by simp [pd];omega
       rw[this]at h2;simp at h2
     exact ⟨n7,by rw[u6 e.on n7];exact h2⟩
 have hb:Region.before ops=ops.toList.foldl (λ acc o=>acc.push (inner acc o)) #[]:=by
  unfold Region.before;rw[<-Sg];rfl
 rw[hb]at h ⊢;have:=key ops.toList [] #[] rfl (λ i j lu=>by simp at lu) i j h
 simpa using this
def iR (ops:Array Oper) (X:Nat->Bool):Prop := ∀ j o,X j=true->ops[j]? = some o -> ∀ e∈o.after,Region.binds .any e=true->X e.on=true
theorem anc {X:Nat->Bool} (hX:iR ops X) : ∀ (i:Nat),(∀ o,ops[i]? = some o -> ∀ e∈o.after,Region.binds .any e=true->X e.on=true) -> ∀ j,((Region.before ops).getD i 0).testBit j=true->X j=true:=by
 intro i;induction i using Nat.strongRecOn with
 | ind i ih =>
  intro hi j hj;obtain ⟨o,ho,e,he,hb,gn⟩:=AkH i j hj;have hx:=hi o ho e he hb;rcases gn with h|⟨n7,h⟩
  ·rw[<-h];exact hx
  ·exact ih e.on n7 (λ o' Ih e' qu m9=>hX e.on o' hx Ih e' qu m9) j h
theorem Ard {X:Nat->Bool} (hX:iR ops X) {i j:Nat} (hi : ∀ o,ops[i]? = some o -> ∀ e∈o.after,Region.binds .any e=true->X e.on=true) (n7:j<i) (h:O7 (Region.before ops) i j=true):X j=true:=by
 unfold O7 at h;rw[Nat.max_eq_left D',Nat.min_eq_right D']at h;exact anc hX i hi j h
theorem AfQ {X:Nat->Bool} (hX:iR ops X) {i j:Nat} (hj:X j=true) (n7:i<j) (h:O7 (Region.before ops) i j=true):X i=true:=by
 unfold O7 at h;rw[Nat.max_eq_right D',Nat.min_eq_left D']at h;exact anc hX j (λ o ho e he hb=>hX j o hj ho e he hb) i h
end
section
variable {C:Cl}
abbrev D:=(Nat->AV) × BF
structure G8 where
 d:Option Nat
 g:Bool
 E:ET
 v:AV
def G8.own (r:G8) (o:BF):BF:=if r.g then r.E.dm o else o
def G8.act (r:G8) (x:D):D:=(Q4 x.1 r.d r.v,r.own x.2)
structure YR (C:Cl) (x:AI) (r:G8) (s s':St):Prop where
 d:r.d=x.dst
 g:V5 (j6 s.tm) x.guard=some r.g
 E:r.g=true->g7 C x.b8 (IE (j6 s.tm)) s.own x.op=some r.E
 v:r.v=(if r.g then r.E.valOf s.own else .e9 [])
 act:(j6 s'.tm,s'.own)=r.act (j6 s.tm,s.own)
theorem trace : ∀ {l:List AI} {st k8:St},F9 C l st=some k8 -> ∃ (σ:Nat->St) (rs:List G8),σ 0=st/\σ l.length=k8/\rs.length=l.length /\ ∀ (k:Nat) (x:AI) (r:G8),l[k]? = some x->rs[k]? = some r->YR C x r (σ k) (σ (k+1))
 | [],st,k8,h=>by
  simp only[F9,ka]at h;subst h;exact ⟨λ_=>st,[],rfl,rfl,rfl,λ k x r hx=>by simp at hx⟩
 | o::q,st,k8,h=>by
  simp only[F9]at h;cases hs:FY C o st with
  | none=>simp [hs]at h
  | some C3 =>
   simp only[hs]at h;obtain ⟨σ,rs,h0,h1,hl,h2⟩:=trace h;obtain ⟨g,E,e1,e2,e3,e4⟩:=Ag0 hs;refine ⟨λ k=>match k with|0=>st|k+1=>σ k,⟨o.dst,g,E,if g then E.valOf st.own else .e9 []⟩::rs,rfl,h1,by simp [hl],λ k x r hx hr => ?_⟩;cases k with
   | zero =>
    simp at hx hr;subst hx hr;refine ⟨rfl,e1,e2,rfl,?_⟩;show (j6 (σ 0).tm,(σ 0).own)=_;rw[h0,e3,e4];rfl
   | succ k=>exact h2 k x r (by simpa using hx) (by simpa using hr)
def HI (X:Nat->Bool):List G8->Nat->D->D
 | [],_,x=>x
 | r::rs,k,x=>HI X rs (k+1) (if X k then r.act x else x)
theorem zI (X:Nat->Bool) : ∀ (l l':List G8) (k:Nat) (x:D),HI X (l++l') k x=HI X l' (k+l.length) (HI X l k x)
 | [],l',k,x=>by simp [HI]
 | r::rs,l',k,x=>by
  simp only[List.cons_append,HI,List.length_cons];rw[zI X rs l' (k+1)];congr 1;omega
theorem Aex {X Y:Nat->Bool} {t:Nat} : ∀ (l:List G8) (k:Nat) (x y:D),x.1 t=y.1 t->(∀ i r,l[i]? = some r->r.d=some t->X (k+i)=Y (k+i))->(HI X l k x).1 t=(HI Y l k y).1 t
 | [],k,x,y,h,_=>h
 | r::rs,k,x,y,h,Dj=>by
  simp only[HI];refine Aex rs (k+1) _ _ ?_ λ i r' hr hd=>by
   have:=Dj (i+1) r' (by simpa using hr) hd
   rw[show k+1+i=k+(i+1) by omega];exact this
  by_cases hd:r.d=some t
  ·have hx:X k=Y k:=by simpa using Dj 0 r rfl hd
   rw[hx];cases Y k
   ·simpa using h
   ·simp [G8.act,Q4,hd]
  ·have e1 : ∀ z:D,(r.act z).1 t=z.1 t:=λ z=>by simp [G8.act,Q4,hd]
   cases X k<;>cases Y k<;>simp [e1,h]
theorem Ari (E:ET) (s:Nat) (o o':BF) (h:o s=o' s):E.dm o s=E.dm o' s:=by
 cases E with
 | val v=>exact h
 | new s' b v =>
  simp only[ET.dm,BF.put];by_cases hs:s=s'
  ·subst hs;simp [h]
  ·simp [hs,h]
 | Iz s' b v =>
  simp only[ET.dm,BF.put];by_cases hs:s=s'
  ·subst hs;simp [h]
  ·simp [hs,h]
 | kb v o2=>rfl
 | Kx s' v o2 =>
  simp only[ET.dm,BF.put];by_cases hs:s=s'
  ·subst hs;simp [h]
  ·simp [hs]
 | Gw s' x v =>
  simp only[ET.dm,BF.put];by_cases hs:s=s'
  ·simp [hs]
  ·simp [hs,h]
 | v9 s' x =>
  simp only[ET.dm,BF.put];by_cases hs:s=s'
  ·simp [hs]
  ·simp [hs,h]
theorem Aew {X Y:Nat->Bool} {s:Nat} : ∀ (l:List G8) (k:Nat) (x y:D),x.2 s=y.2 s->(∀ i r,l[i]? = some r->X (k+i)=Y (k+i) \/ ∀ o,r.own o s=o s)->(HI X l k x).2 s=(HI Y l k y).2 s
 | [],k,x,y,h,_=>h
 | r::rs,k,x,y,h,Dj=>by
  simp only[HI];refine Aew rs (k+1) _ _ ?_ λ i r' hr=>by
   have:=Dj (i+1) r' (by simpa using hr)
   rw[show k+1+i=k+(i+1) by omega];exact this
  rcases Dj 0 r rfl with hx|hx
  ·simp only[Af]at hx
   rw[hx];cases Y k
   ·simpa using h
   ·simp only[if_true,G8.act,G8.own]
    cases r.g
    ·simpa using h
    ·simpa using Ari r.E s _ _ h
  ·have e1 : ∀ z:D,(r.act z).2 s=z.2 s:=λ z=>hx z.2
   cases X k<;>cases Y k<;>simp [e1,h]
theorem zJ {X:Nat->Bool} (q:G8) : ∀ (l:List G8) (k:Nat) (x:D),(∀ i r,l[i]? = some r->X (k+i)=true -> ∀ z,r.act (q.act z)=q.act (r.act z))->HI X l k (q.act x)=q.act (HI X l k x)
 | [],k,x,_=>rfl
 | r::rs,k,x,h=>by
  simp only[HI];have jz : ∀ i r',rs[i]? = some r'->X (k+1+i)=true -> ∀ z,r'.act (q.act z)=q.act (r'.act z):=λ i r' hr hX=>h (i+1) r' (by simpa using hr) (by rw[show k+(i+1)=k+1+i by omega];exact hX)
  cases hk:X k
  ·simp only[Sc,if_false]
   exact zJ q rs (k+1) x jz
  ·simp only[if_true]
   rw[h 0 r rfl (by simpa using hk)];exact zJ q rs (k+1) _ jz
theorem sF {X Y:Nat->Bool} : ∀ (l:List G8) (k:Nat) (x:D),(∀ i,i<l.length->X (k+i)=Y (k+i))->HI X l k x=HI Y l k x
 | [],_,_,_=>rfl
 | r::rs,k,x,h=>by
  simp only[HI];rw[show X k=Y k by simpa using h 0 p_];exact sF rs (k+1) _ λ i hi=>by
   have:=h (i+1) (by simpa using hi)
   rw[show k+1+i=k+(i+1) by omega];exact this
theorem Aev {X X':Nat->Bool} {l:List G8} {i:Nat} {q:G8} (hq:l[i]? = some q) (wo:X i=false) (Fu : ∀ j,X' j=(decide (j=i)||X j)) (x:D) (Sf : ∀ j r,l[j]? = some r->i<j->X j=true -> ∀ z,r.act (q.act z)=q.act (r.act z)) :
  HI X' l 0 x=q.act (HI X l 0 x):=by
 have dw:i<l.length:=(zS hq).1;have hli:l=l.take i++(q::l.drop (i+1)):=by
  have:l.drop i=q::l.drop (i+1):=by
   rw[Lf dw];congr 1;have:=(zS hq).2
   exact this
  rw[<-this,List.take_append_drop]
 have gp:(l.take i).length=i:=by simp;omega
 rw[hli,zI,zI,gp,Sd];simp only[HI,wo,Sc,if_false];rw[show X' i=true by rw[Fu];simp];simp only[if_true];rw[sF (X:=X') (Y:=X) (l.take i) 0 x (λ j hj=>by rw[Fu];simp;omega)];rw[sF (X:=X') (Y:=X) (l.drop (i+1)) (i+1) _ (λ j hj=>by rw[Fu];simp;omega)];refine zJ q _ _ _ λ j r hr Vw => ?_
 rw[fc]at hr;exact Sf (i+1+j) r hr D' Vw
end
end Go.j4

namespace Go.j4
open Go.RowKit
section
variable {C:Cl} {b8:a_} {ρ:BM->AV}
theorem Am7 {op:HO} (o o':BF) (ht:LI op=false) (hr:gV op=true->o.o5 b8=o'.o5 b8) (m4 : ∀ s,ID op=some s->o s=o' s):g7 C b8 ρ o op=g7 C b8 ρ o' op:=by
 cases op with
 | ym s n x v =>
  have h1:=m4 s rfl;have h2 : ∀ t i j vs,(o.wg s t i j vs).map (λ q=>ET.v9 s (q s))=(o'.wg s t i j vs).map (λ q=>ET.v9 s (q s)):=λ t i j vs=>by
   have hg:o.get s t=o'.get s t:=by unfold BF.get;rw[h1]
   unfold BF.wg;rw[hg];cases o'.get s t with
   | none=>rfl
   | some b =>
    simp only;cases b.es[i]? with
    | none=>rfl
    | some cs =>
     simp only;split
     ·simp only[Qc,BF.l9,h1]
     ·rfl
  simp only[g7,h2]
 | ld agg n x=>have:=hr rfl;simp only[g7,this]
 | call f xs=>have:=hr rfl;simp only[g7,this]
 | bf s f xs=>have:=hr rfl;simp only[g7,this]
 | iy s f xs=>have h1:=m4 s rfl;simp only[g7,h1]
 | st=>simp [LI]at ht
 | app=>simp [LI]at ht
 | j5=>simp [LI]at ht
 | q6=>simp [LI]at ht
 | _=>rfl
theorem AdA {op:HO} {o:BF} {E:ET} (h:g7 C b8 ρ o op=some E) {s:Nat} (hs:ID op=some s):(∃ b v,E = .new s b v\/E = .Iz s b v) \/ ∃ x v,E = .v9 s x\/E = .Gw s x v:=by
 cases op with
 | ym s' n x v =>
  simp only[ID,ka]at hs;subst hs;simp only[g7]at h;split at h
  ·split at h
   ·simp only[Sa]at h
    obtain ⟨q,_,rfl⟩:=h;exact .inr ⟨_,.any,.inl rfl⟩
   ·cases h
  ·cases h
 | bf s' f xs =>
  simp only[ID,ka]at hs;subst hs;simp only[g7]at h;split at h
  ·simp only[Sa]at h
   obtain ⟨r,_,rfl⟩:=h;exact .inl ⟨_,_,.inl rfl⟩
  ·cases h
 | yx s' a9 bytes x y =>
  simp only[ID,ka]at hs;subst hs;simp only[g7]at h;split at h
  ·split at h
   ·simp only[ka]at h;exact .inl ⟨_,_,.inl h.symm⟩
   ·cases h
  ·cases h
 | iy s' f xs =>
  simp only[ID,ka]at hs;subst hs;simp only[g7,Sa]at h;obtain ⟨p,_,rfl⟩:=h;exact .inr ⟨_,_,.inr rfl⟩
 | bu s' z =>
  simp only[ID,ka]at hs;subst hs;simp only[g7,ka]at h;exact .inl ⟨_,_,.inr h.symm⟩
 | box s' x =>
  simp only[ID,ka]at hs;subst hs;simp only[g7]at h;split at h
  ·simp only[ka]at h;exact .inl ⟨_,_,.inl h.symm⟩
  ·cases h
 | alloc s' z =>
  simp only[ID,ka]at hs;subst hs;simp only[g7,ka]at h;exact .inl ⟨_,_,.inl h.symm⟩
 | c8 s' a9 ps =>
  simp only[ID,ka]at hs;subst hs;simp only[g7]at h;split at h
  ·split at h
   ·simp only[ka]at h;exact .inl ⟨_,_,.inl h.symm⟩
   ·cases h
  ·cases h
 | mk s' a9 bytes z l c =>
  simp only[ID,ka]at hs;subst hs;simp only[g7]at h;split at h
  ·split at h
   ·simp only[ka]at h;exact .inl ⟨_,_,.inl h.symm⟩
   ·cases h
  ·cases h
 | _=>simp [ID]at hs
theorem Ze {α:Type} {x:Option α} {f:α->AV} {E:ET} (h:x.map (λ y=>ET.val (f y))=some E) : ∃ v,E = .val v:=by
 cases x with
 | none=>cases h
 | some y=>simp only[Qc,ka]at h;exact ⟨_,h.symm⟩
theorem AdB {op:HO} {o:BF} {E:ET} (h:g7 C b8 ρ o op=some E) (ht:LI op=false) (hs:ID op=none) : ∃ v,E = .val v:=by
 cases op<;>first|(simp [LI]at ht;done)|(simp [ID]at hs;done)|skip
 all_goals simp only[g7]at h
 all_goals
  first
   | (simp only[ka]at h;exact ⟨_,h.symm⟩)
   | exact Ze (f:=id) h
   | skip
 all_goals (repeat' split at h)
 all_goals
  first
   | (cases h;done)
   | (simp only[ka]at h;exact ⟨_,h.symm⟩)
   | exact Ze (f:=id) h
   | exact Ze (f:=AV.agg) h
   | (simp only[Sa]at h;obtain ⟨cs,_,rfl⟩:=h;exact ⟨_,rfl⟩)
theorem gT {x:AI} {r:G8} {s s':St} (h:YR C x r s s') (ht:LI x.op=false) (hs:ID x.op=none) (o:BF):r.own o=o:=by
 unfold G8.own;cases hg:r.g with
 | false=>rfl
 | true =>
  obtain ⟨v,hv⟩:=AdB (h.E hg) ht hs;simp [hv,ET.dm]
theorem tT {x:AI} {r:G8} {s s':St} (h:YR C x r s s') {q:Nat} (hs:ID x.op=some q):(∀ o,r.own o=o) \/ ∃ F:EV->EV,∀ o:BF,r.own o=o.put q (F (o q)):=by
 unfold G8.own;cases hg:r.g with
 | false=>exact .inl λ_=>rfl
 | true =>
  rcases AdA (h.E hg) hs with ⟨b,v,hv|hv⟩|⟨x,v,hv|hv⟩
  ·exact .inr ⟨λ q=>q.new b,λ o=>by simp [hv,ET.dm]⟩
  ·exact .inr ⟨λ q=>q.new b,λ o=>by simp [hv,ET.dm]⟩
  ·exact .inr ⟨λ_=>x,λ o=>by simp [hv,ET.dm]⟩
  ·exact .inr ⟨λ_=>x,λ o=>by simp [hv,ET.dm]⟩
theorem Yh {x:AI} {r:G8} {s s':St} (h:YR C x r s s') {q:Nat} (hs:ID x.op=some q) {p:Nat} (hp:p≠q) (o:BF):r.own o p=o p:=by
 rcases tT h hs with h1|⟨b,h1⟩
 ·rw[h1]
 ·rw[h1];simp [BF.put,hp]
theorem AeY {x:AI} {s:Nat} (h:W6 x=some s) : ∃ f xs,x.op = .j5 f xs/\x.b8=[s]:=by
 unfold W6 at h;split at h
 ·rename_i f xs s' h1 h2
  obtain rfl:=Eb h;exact ⟨f,xs,h1,h2⟩
 ·cases h
theorem sM {x y:AI} (h:jX x y=true) : ∃ s,W6 x=some s/\ID y.op=some s/\LI y.op=false/\gV y.op=false:=by
 unfold jX at h;split at h
 ·rename_i s hs
  simp only[Sb,beq_iff_eq,Kg]at h;exact ⟨s,hs,h.1,h.2.1,h.2.2⟩
 ·cases h
theorem AkQ {f:Nat} {vs:d_} {s:Nat} {o o':BF} (h : ∀ q,q≠s->o q=o' q):WS C f vs s o=WS C f vs s o':=by
 have e:(λ p:AV × BF => ∀ u:BF,(∀ q,q≠s->u q=o q)->C.kv f vs u=some (p.1,p.2.put s (u s)))=λ p:AV × BF => ∀ u:BF,(∀ q,q≠s->u q=o' q)->C.kv f vs u=some (p.1,p.2.put s (u s)):=by
  funext p
  refine propext ⟨λ g u hu=>g u λ q hq=>by rw[hu q hq,h q hq],λ g u hu=>g u λ q hq=>by rw[hu q hq,h q hq]⟩
 cases h1:WS C f vs s o with
 | some p =>
  have h2:=qQ h1;exact (qP h2.1 λ u hu=>h2.2 u λ q hq=>by rw[hu q hq,h q hq]).symm
 | none =>
  cases h3:WS C f vs s o' with
  | none=>rfl
  | some p =>
   have h2:=qQ h3;rw[qP h2.1 λ u hu=>h2.2 u λ q hq=>by rw[hu q hq,h q hq]]at h1;cases h1
theorem Adz {x:AI} {s:Nat} (hk:W6 x=some s) {o:BF} {E:ET} (h:g7 C x.b8 ρ o x.op=some E) : ∃ v o',E = .Kx s v o':=by
 obtain ⟨f,xs,h1,h2⟩:=AeY hk;rw[h1,h2]at h;simp only[g7,Sa]at h;obtain ⟨p,_,rfl⟩:=h;exact ⟨_,_,rfl⟩
theorem Af8 {x:AI} {r:G8} {s s':St} (h:YR C x r s s') {q:Nat} (hk:W6 x=some q):(∀ o,r.own o=o) \/ ∃ o':BF,∀ o:BF,r.own o=o'.put q (o q):=by
 unfold G8.own;cases hg:r.g with
 | false=>exact .inl λ_=>rfl
 | true =>
  obtain ⟨v,o',hv⟩:=Adz hk (h.E hg);exact .inr ⟨o',λ o=>by simp [hv,ET.dm]⟩
theorem AfP (b:Array Nat) (i j:Nat):O7 b i j=O7 b j i:=by unfold O7;rw[Nat.max_comm,Nat.min_comm]
theorem fH {ops:Array Oper} {l:List AI} (h:fG ops l=true) {i j:Nat} {x y:AI} (hx:l[i]? = some x) (hy:l[j]? = some y) (n6:i≠j) :
  (O7 (Region.before ops) i j=true\/((∀ t,y.dst=some t->t ∉ jZ x)/\(LI x.op=false\/SH y.op=false\/jX x y=true)/\(gV x.op=true -> ∀ s,ID y.op=some s->s∈x.b8))) /\
  (O7 (Region.before ops) i j=true \/ ∀ s s',ID x.op=some s->ID y.op=some s'->s≠s'):=by
 simp only[fG,Sb]at h;have h1:=h.1.1;rw[Td]at h1;have hxm:(x,i)∈l.zipIdx:=Ue.2 hx;have hym:(y,j)∈l.zipIdx:=Ue.2 hy;have h2:=h1 (x,i) hxm;simp only at h2;rw[Td]at h2;have h3:=h2 (y,j) hym;simp only[Sb,Hd,beq_iff_eq,n6,false_or]at h3;obtain ⟨h4,h5⟩:=h3;refine ⟨?_,h5.imp id λ h5 s s' hs Cd => ?_⟩
 ·unfold AfU at h4
  simp only[Hd,beq_iff_eq,n6,false_or]at h4;refine h4.imp id λ h6 => ?_
  simp only[Sb,Hd,Kg]at h6;obtain ⟨⟨h7,h8⟩,h9⟩:=h6;refine ⟨λ t ht => ?_,or_assoc.1 h8,λ hr s hs => ?_⟩
  ·rw[ht]at h7
   simpa using h7
  ·rw[hr,hs]at h9
   simpa using h9
 ·rw[hs,Cd]at h5
  simpa using h5
structure pV (C:Cl) (ops:Array Oper) (l:List AI) (σ:Nat->St) (rs:List G8):Prop where
 ok:fG ops l=true
 len:rs.length=l.length
 fits : ∀ (k:Nat) (x:AI) (r:G8),l[k]? = some x->rs[k]? = some r->YR C x r (σ k) (σ (k+1))
variable {ops:Array Oper} {l:List AI} {σ:Nat->St} {rs:List G8}
theorem zK {X:Nat->Bool} : ∀ (l:List G8) (k:Nat) (x:D),(∀ i,i<l.length->X (k+i)=false)->HI X l k x=x
 | [],_,_,_=>rfl
 | r::q,k,x,h=>by
  simp only[HI];rw[show X k=false by simpa using h 0 p_];exact zK q (k+1) _ λ i hi=>by
   have:=h (i+1) (by simpa using hi)
   rw[show k+1+i=k+(i+1) by omega];exact this
def d0 (σ:Nat->St):D:=(j6 (σ 0).tm,(σ 0).own)
theorem xW (h:pV C ops l σ rs) : ∀ k,k<=l.length->HI (λ j=>decide (j<k)) rs 0 (d0 σ)=(j6 (σ k).tm,(σ k).own)
 | 0,_=>zK rs 0 _ λ i _=>p_
 | k+1,hk=>by
  have Ae:k<l.length:=D'
  have hkr:k<rs.length:=by rw[h.len];exact Ae
  have hr:rs[k]? = some rs[k]:=zE hkr;have hf:=h.fits k l[k] rs[k] (zE Ae) hr;rw[Aev (X:=λ j=>decide (j<k)) (X':=λ j=>decide (j<k+1)) hr p_ (λ j=>by
   by_cases h1:j=k
   ·simp [h1]
   ·simp [h1];omega) _ (λ j r' _ n7 hX=>by simp at hX;omega),xW h k D']
  exact hf.act.symm
section
variable {X:Nat->Bool} {i:Nat} {x:AI} {r:G8}
theorem AfR (hX:iR ops X) (wo:X i=false) (kr : ∀ o,ops[i]? = some o -> ∀ e∈o.after,Region.binds .any e=true->X e.on=true) {j:Nat} (n6:i≠j) (ho:O7 (Region.before ops) i j=true):X j=decide (j<i):=by
 rcases Mg n6 with n7|Cb
 ·have:X j=false:=by
   cases hj:X j with
   | false=>rfl
   | true=>have:=AfQ hX hj n7 ho;rw[wo]at this;cases this
  rw[this];simp;omega
 ·rw[Ard hX kr Cb ho];simp;omega
theorem AmX (h:pV C ops l σ rs) (hx:l[i]? = some x) (hr:rs[i]? = some r) (hX:iR ops X) (wo:X i=false) (kr : ∀ o,ops[i]? = some o -> ∀ e∈o.after,Region.binds .any e=true->X e.on=true) :
  V5 (HI X rs 0 (d0 σ)).1 x.guard=some r.g/\(r.g=true->g7 C x.b8 (IE (HI X rs 0 (d0 σ)).1) (HI X rs 0 (d0 σ)).2 x.op=some r.E) /\
  (if r.g then r.E.valOf (HI X rs 0 (d0 σ)).2 else .e9 [])=r.v /\
  ∀ X':Nat->Bool,(∀ j,X' j=(decide (j=i)||X j))->HI X' rs 0 (d0 σ)=r.act (HI X rs 0 (d0 σ)):=by
 have dw:i<l.length:=(zS hx).1;have hf:=h.fits i x r hx hr;have Ki:=xW h i D';generalize hT:HI X rs 0 (d0 σ)=TX;have je : ∀ (j:Nat) (r':G8),rs[j]? = some r' -> ∃ y,l[j]? = some y/\YR C y r' (σ j) (σ (j+1)):=λ j r' hj=>by
  have jy:j<l.length:=by rw[<-h.len];exact (zS hj).1
  exact ⟨l[j],zE jy,h.fits j _ _ (zE jy) hj⟩
 have Ke : ∀ t∈jZ x,TX.1 t=j6 (σ i).tm t:=λ t ht=>by
  have:=Aex (X:=X) (Y:=λ j=>decide (j<i)) (t:=t) rs 0 (d0 σ) (d0 σ) rfl (λ j r' hj hd=>by
   simp only[Sd];by_cases n6:i=j
   ·subst n6;simp [wo]
   ·obtain ⟨y,hy,lk⟩:=je j r' hj
    rcases (fH h.ok hx hy n6).1 with ho|⟨h1,_⟩
    ·exact AfR hX wo kr n6 ho
    ·exact absurd ht (h1 t (by rw[<-lk.d];exact hd)))
  rw[hT,Ki]at this;exact this
 have Ut : ∀ t∈M4 x.op,TX.1 t=j6 (σ i).tm t:=λ t ht=>Ke t (by simp [jZ,ht])
 have mu : ∀ s,(∀ (j:Nat) (y:AI) (r':G8),i≠j->l[j]? = some y->rs[j]? = some r'->O7 (Region.before ops) i j=true \/ ∀ o,r'.own o s=o s)->TX.2 s=(σ i).own s:=λ s hs=>by
  have:=Aew (X:=X) (Y:=λ j=>decide (j<i)) (s:=s) rs 0 (d0 σ) (d0 σ) rfl (λ j r' hj=>by
   simp only[Sd];by_cases n6:i=j
   ·subst n6;left;simp [wo]
   ·obtain ⟨y,hy,lk⟩:=je j r' hj
    rcases hs j y r' n6 hy hj with ho|ho
    ·exact .inl (AfR hX wo kr n6 ho)
    ·exact .inr ho)
  rw[hT,Ki]at this;exact this
 have ye : ∀ (j:Nat) (y:AI) (r':G8),l[j]? = some y->rs[j]? = some r'->SH y.op=false -> ∀ o,r'.own o=o:=λ j y r' hy hj hm o=>by
  simp only[SH,Bool.or_eq_false_iff]at hm;exact gT (h.fits j y r' hy hj) hm.1.1 (by simpa using hm.2) o
 have Ui : ∀ (j:Nat) (y:AI),i≠j->l[j]? = some y->LI y.op=true->SH x.op=true->O7 (Region.before ops) i j=true\/jX y x=true:=λ j y n6 hy ht tj=>by
  rcases (fH h.ok hy hx (Ne.symm n6)).1 with ho|⟨_,h2,_⟩
  ·rw[AfP];exact .inl ho
  ·rw[ht,tj]at h2
   simp only[Og,false_or]at h2;exact .inr h2
 have hg:V5 TX.1 x.guard=some r.g:=by
  rw[<-hf.g];cases Pu:x.guard with
  | none=>rfl
  | some gw =>
   obtain ⟨g,w⟩:=gw;simp only[V5];rw[Ke g (by simp [jZ,Pu])]
 have Kj:LI x.op=true -> ∀ s,W6 x≠some s->TX.2 s=(σ i).own s:=λ ht s Nf=>by
  refine mu s λ j y r' n6 hy hj => ?_
  cases hm:SH y.op with
  | false=>exact .inr λ o=>by rw[ye j y r' hy hj hm o]
  | true =>
   rcases (fH h.ok hx hy n6).1 with ho|⟨_,h2,_⟩
   ·exact .inl ho
   ·rw[ht,hm]at h2
    simp only[Og,false_or]at h2;obtain ⟨q,k1,k2,k3,_⟩:=sM h2;exact .inr λ o=>Yh (h.fits j y r' hy hj) k2 (p:=s) (λ e=>Nf (by rw[e];exact k1)) o
 have En:LI x.op=true->W6 x=none->TX.2=(σ i).own:=λ ht hn=>by
  funext s
  exact Kj ht s (by rw[hn];simp)
 have Ug:gV x.op=true->TX.2.o5 x.b8=(σ i).own.o5 x.b8:=λ tk=>by
  refine ApL λ s hs=>mu s λ j y r' n6 hy hj => ?_
  have tj:SH x.op=true:=by simp [SH,tk]
  cases ht:LI y.op with
  | true =>
   refine .inl ((Ui j y n6 hy ht tj).resolve_right λ hk => ?_);obtain ⟨_,_,_,_,k4⟩:=sM hk;rw[tk]at k4;cases k4
  | false =>
   cases wz:ID y.op with
   | none=>exact .inr λ o=>by rw[gT (h.fits j y r' hy hj) ht wz o]
   | some q =>
    rcases (fH h.ok hx hy n6).1 with ho|⟨_,_,h3⟩
    ·exact .inl ho
    ·exact .inr λ o=>Yh (h.fits j y r' hy hj) wz (p:=s) (λ e=>hs (by rw[e];exact h3 tk q wz)) o
 have Jz : ∀ s,ID x.op=some s->TX.2 s=(σ i).own s:=λ s Cv=>by
  have tj:SH x.op=true:=by simp [SH,Cv]
  exact mu s λ j y r' n6 hy hj=>by
   cases ht:LI y.op with
   | true =>
    rcases Ui j y n6 hy ht tj with ho|hk
    ·exact .inl ho
    ·obtain ⟨q,k1,k2,_,_⟩:=sM hk
     obtain rfl:q=s:=Eb (k2.symm.trans Cv);rcases Af8 (h.fits j y r' hy hj) k1 with g1|⟨o',g1⟩
     ·exact .inr λ o=>by rw[g1]
     ·exact .inr λ o=>by rw[g1];simp [BF.put]
   | false =>
    cases wz:ID y.op with
    | none=>exact .inr λ o=>by rw[gT (h.fits j y r' hy hj) ht wz o]
    | some q =>
     rcases (fH h.ok hx hy n6).2 with ho|Io
     ·exact .inl ho
     ·exact .inr λ o=>Yh (h.fits j y r' hy hj) wz (Io s q Cv wz) o
 have At9:r.g=true->g7 C x.b8 (IE TX.1) TX.2 x.op=some r.E:=λ lq=>by
  rw[Am4 Ut,<-hf.E lq];cases ht:LI x.op with
  | true =>
   cases hk:W6 x with
   | none=>rw[En ht hk]
   | some s =>
    obtain ⟨f,xs,k1,k2⟩:=AeY hk;rw[k1,k2];simp only[g7];rw[AkQ (o':=(σ i).own) λ q hq=>Kj ht q (by rw[hk];exact λ e=>hq (Eb e).symm)]
  | false=>exact Am7 _ _ ht Ug Jz
 have hval:(if r.g then r.E.valOf TX.2 else .e9 [])=r.v:=by
  rw[hf.v];cases hgv:r.g with
  | false=>rfl
  | true =>
   simp only[if_true];cases Cv:ID x.op with
   | none =>
    cases ht:LI x.op with
    | true =>
     cases hk:W6 x with
     | none=>rw[En ht hk]
     | some s =>
      obtain ⟨v,o',hv⟩:=Adz hk (hf.E hgv);rw[hv];rfl
    | false =>
     obtain ⟨v,hv⟩:=AdB (hf.E hgv) ht Cv;rw[hv];rfl
   | some s =>
    have Io:=Jz s Cv;rcases AdA (hf.E hgv) Cv with ⟨b,v,hv|hv⟩|⟨x,v,hv|hv⟩<;>rw[hv]<;>simp only[ET.valOf,BF.j8,Io]
 refine ⟨hg,At9,hval,λ X' Fu => ?_⟩;rw[<-hT];refine Aev hr wo Fu _ λ j r' hj n7 Vw z => ?_
 obtain ⟨y,hy,lk⟩:=je j r' hj;have n6:i≠j:=D'
 have Jw : ¬ O7 (Region.before ops) i j=true:=λ ho=>by
  have:=AfQ hX Vw n7 ho
  rw[wo]at this;cases this
 obtain ⟨Uc,Jx⟩:=fH h.ok hx hy n6;obtain ⟨Ii,Gd⟩:=fH h.ok hy hx (Ne.symm n6);have hp:=Uc.resolve_left Jw;have hq:=Ii.resolve_left (by rw[AfP];exact Jw);unfold G8.act;refine Prod.ext ?_ ?_
 ·funext t
  simp only[Q4];by_cases h1:r'.d=some t<;>by_cases h2:r.d=some t
  ·exact absurd (by rw[hf.d]at h2;simp [jZ,h2]) (hp.1 t (by rw[<-lk.d];exact h1))
  ·simp [h1,h2]
  ·simp [h1,h2]
  ·simp [h1,h2]
 ·show r'.own (r.own z.2)=r.own (r'.own z.2)
  cases tj:SH x.op with
  | false=>rw[ye i x r hx hr tj,ye i x r hx hr tj]
  | true =>
   cases Hy:SH y.op with
   | false=>rw[ye j y r' hy hj Hy,ye j y r' hy hj Hy]
   | true =>
    have Tk : ∀ {x y:AI} {r r':G8} {s1 s2 s3 s4:St},YR C x r s1 s2->YR C y r' s3 s4->jX x y=true -> ∀ o,r'.own (r.own o)=r.own (r'.own o):=λ hf lk hk o=>by
     obtain ⟨q,k1,k2,_,_⟩:=sM hk;rcases Af8 hf k1 with g1|⟨o',g1⟩
     ·rw[g1,g1]
     ·rcases tT lk k2 with g2|⟨F,g2⟩
      ·rw[g2,g2]
      ·rw[g1,g2,g2,g1]
       funext p
       simp only[BF.put];split<;>rfl
    rcases hp.2.1 with htx|h1|h1
    rotate_left
    ·rw[Hy]at h1;cases h1
    ·exact Tk hf lk h1 _
    rcases hq.2.1 with hty|h1|h1
    rotate_left
    ·rw[tj]at h1;cases h1
    ·exact (Tk lk hf h1 _).symm
    cases Cv:ID x.op with
    | none=>rw[gT hf htx Cv,gT hf htx Cv]
    | some s =>
     cases wz:ID y.op with
     | none=>rw[gT lk hty wz,gT lk hty wz]
     | some s' =>
      have Io:=(Jx.resolve_left Jw) s s' Cv wz;rcases tT hf Cv with h1|⟨b,h1⟩
      ·rw[h1,h1]
      ·rcases tT lk wz with h2|⟨b',h2⟩
       ·rw[h2,h2]
       ·rw[h1,h2,h2,h1]
        funext q
        simp only[BF.put];by_cases hqs:q=s<;>by_cases Ns:q=s'
        ·exact absurd (hqs.symm.trans Ns) Io
        ·simp [hqs,Io]
        ·simp [Ns,Ne.symm Io]
        ·simp [hqs,Ns]
end
end
end Go.j4

namespace Go.j4
open Go.RowKit
section
variable {ops:Array Oper} {md:Region.Mode}
theorem AkK {e:Edge} (h:Region.binds .any e=true) (md:Region.Mode):Region.binds md e=true:=by
 unfold Region.binds at *;split at h<;>simp_all
theorem Afg (ops:Array Oper) (md:Region.Mode) : ∀ (fuel t:Nat) (b9:Array Bool),b9.size=ops.size -> ∀ (k i:Nat),(Region.linearise.go md ops fuel t b9 [])[k]? = some i ->
  ∃ o,ops[i]? = some o /\ ∀ e∈o.after,Region.binds md e=true->b9.getD e.on false=true\/e.on∈(Region.linearise.go md ops fuel t b9 []).take k
 | 0,t,b9,hs,k,i,h=>by simp [Region.linearise.go]at h
 | fuel+1,t,b9,hs,k,i,h=>by
  have Bk:Region.linearise.go md ops (fuel+1) t b9 []=match (Region.ready md ops b9)[t%(Region.ready md ops b9).length]? with
   | some i=>i::Region.linearise.go md ops fuel (t/(Region.ready md ops b9).length) (b9.setIfInBounds i true) []
   | none=>[]:=by
   simp only[Region.linearise.go];change (match (Region.ready md ops b9)[t%(Region.ready md ops b9).length]? with
    | some i=>Region.linearise.go md ops fuel (t/(Region.ready md ops b9).length) (b9.setIfInBounds i true) [i]
    | none=>[].reverse)=_
   cases (Region.ready md ops b9)[t%(Region.ready md ops b9).length]? with
   | none=>rfl
   | some i=>simp only[];rw[linearise_go_acc];rfl
  rw[Bk]at h ⊢;cases hr:(Region.ready md ops b9)[t%(Region.ready md ops b9).length]? with
  | none=>rw[hr]at h;simp at h
  | some q =>
   rw[hr]at h;simp only at h ⊢;obtain ⟨_,oq,hoq,hq⟩:=mem_ready.1 (zM hr);cases k with
   | zero =>
    simp at h;subst h;exact ⟨oq,hoq,λ e he hb => .inl (hq e he hb)⟩
   | succ k =>
    simp at h;obtain ⟨o,ho,hh⟩:=Afg ops md fuel _ _ (by simpa using hs) k i h;refine ⟨o,ho,λ e he hb => ?_⟩;rcases hh e he hb with h1|h1
    ·by_cases heq:e.on=q
     ·right;simp [heq]
     ·left
      rw[getD_set_ne false (Ne.symm heq)]at h1;exact h1
    ·right;simp [h1]
theorem zF {p:Nat->Bool} : ∀ (l:a_),(∃ i∈l,p i=false) -> ∃ k i,l[k]? = some i/\p i=false /\ ∀ j∈l.take k,p j=true
 | [],⟨i,hi,_⟩=>by simp at hi
 | x::r,⟨i,hi,hp⟩=>by
  cases hx:p x with
  | false=>exact ⟨0,x,rfl,hx,p_⟩
  | true =>
   have : ∃ i∈r,p i=false:=by
    rcases Ce.1 hi with h|h
    ·subst h;rw[hx]at hp;cases hp
    ·exact ⟨i,h,hp⟩
   obtain ⟨k,j,h1,h2,h3⟩:=zF r this;refine ⟨k+1,j,by simpa using h1,h2,λ q hq => ?_⟩;simp only[List.take_succ_cons,Ce]at hq;rcases hq with h|h
   ·subst h;exact hx
   ·exact h3 q h
theorem progress {l:List AI} (hd:fG ops l=true) (Tj:md = .gc->Region.departs ops=true) {b9:Array Bool} (hs:b9.size=ops.size) (hr:Region.ready md ops b9=[]) : ∀ j,j<ops.size->b9.getD j false=true:=by
 intro j hj;cases jy:b9.getD j false with
 | true=>rfl
 | false =>
  exfalso;simp only[fG,Sb]at hd;obtain ⟨⟨_,qp⟩,Du⟩:=hd;have yl : ∀ i,i<ops.size->b9.getD i false=false -> ¬ ∀ o,ops[i]? = some o -> ∀ e∈o.after,Region.binds md e=true->b9.getD e.on false=true:=λ i hi hl nn=>by
   have:i∈Region.ready md ops b9:=mem_ready.2 ⟨by
    have:i<b9.size:=D'
    simp [pd,this]at hl ⊢;exact hl,ops[i],Oe hi,λ e he hb=>nn ops[i] (Oe hi) e he hb⟩
   rw[hr]at this;simp at this
  by_cases Sw:md = .gc
  ·subst Sw
   rw[Tj rfl]at Du;simp only[Bool.not_true,Bool.false_or,Td,List.mem_range,List.contains_iff_mem]at Du;obtain ⟨k,i,h1,h2,h3⟩:=zF (p:=λ q=>b9.getD q false) (Region.linearise .gc ops 0) ⟨j,Du j hj,jy⟩;obtain ⟨o,ho,hh⟩:=Afg ops .gc ops.size 0 (Kd ops.size false) p_ k i h1;have hi:i<ops.size:=(jb.1 ho).1;refine yl i hi h2 λ o' Ih e he hb => ?_
   rw[ho]at Ih;obtain rfl:o=o':=by simpa using Ih
   rcases hh e he hb with h4|h4
   ·simp [pd]at h4
   ·exact h3 e.on h4
  ·obtain ⟨k,i,h1,h2,h3⟩:=zF (p:=λ q=>b9.getD q false) (Ge ops.size) ⟨j,by simpa using hj,jy⟩
   have uk:i=k:=by
    have Ae:k<ops.size:=by have:=(zS h1).1;simpa using this
    rw[De Ae]at h1;simpa using h1.symm
   subst uk;have hi:i<ops.size:=by have:=(zS h1).1;simpa using this
   refine yl i hi h2 λ o ho e he hb => ?_
   rw[Td]at qp;have rh:(o,i)∈ops.toList.zipIdx:=Ue.2 (by simpa using ho);have h4:=qp (o,i) rh;simp only[Array.all_eq_true_iff_forall_mem,Hd,decide_eq_true_eq]at h4;rcases h4 e he with h5|h5
   ·exact h3 e.on (by rw[List.take_range];simp;omega)
   ·exfalso
    unfold Region.binds at hb;split at h5
    ·rename_i row Ah
     rw[Ah]at hb;simp at hb;exact Sw hb
    ·cases h5
variable {B:Nat} {S:Nat->Prop} {w0:World} {m0:M} {N:Nat}
variable {P:Program} {num:Nat->Nat} {C:Cl} {Q:Exit->Act->World->Prop}
def iI (b9:Array Bool) (n:Nat):Nat:=(Ge n).countP (λ j => !b9.getD j false)
theorem AcY {α:Type} {p q:α->Bool} : ∀ {l:List α} {x:α},(∀ y∈l,q y=true->p y=true)->x∈l->p x=true->q x=false->l.countP q<l.countP p
 | [],x,_,hx,_,_=>by simp at hx
 | y::r,x,h,hx,hp,hq=>by
  have hle:r.countP q<=r.countP p:=List.countP_mono_left λ z hz hqz=>h z (by simp [hz]) hqz
  rw[Jg,Jg];rcases Ce.1 hx with rfl|hx
  ·simp only[hp,hq,if_true,Sc,if_false]
   omega
  ·have:=AcY (l:=r) (λ z hz=>h z (by simp [hz])) hx hp hq
   by_cases hqy:q y=true
   ·simp only[hqy,h y p_ hqy,if_true];omega
   ·simp only[hqy,Sc,if_false]
    split<;>omega
theorem Atb (hC:LX P num C) {l:List AI} (j7:ZO P num N ops ops.toList l=true) {σ:Nat->St} {rs:List G8} (h:pV C ops l σ rs) (Tj:md = .gc->Region.departs ops=true)
  (hQ : ∀ m' a',m'.own=(σ l.length).own->J2 B S w0 m0 N (j6 (σ l.length).tm) m' a'->Q .normal a' m'.w) :
  ∀ (fuel:Nat) (b9:Array Bool) (a:Act) (m:M),b9.size=ops.size->iI b9 ops.size<=fuel->iR ops (λ j=>b9.getD j false)->m.own=(HI (λ j=>b9.getD j false) rs 0 (d0 σ)).2->J2 B S w0 m0 N (HI (λ j=>b9.getD j false) rs 0 (d0 σ)).1 m a->wpAny P md ops Q fuel b9 a m.w:=by
 have hlen:ops.size=l.length:=by have:=(nL j7).1;simpa using this
 have final : ∀ (b9:Array Bool) (a:Act) (m:M),(∀ j,j<ops.size->b9.getD j false=true)->m.own=(HI (λ j=>b9.getD j false) rs 0 (d0 σ)).2->J2 B S w0 m0 N (HI (λ j=>b9.getD j false) rs 0 (d0 σ)).1 m a->Q .normal a m.w:=λ b9 a m nn m5 hf=>by
  have:HI (λ j=>b9.getD j false) rs 0 (d0 σ)=(j6 (σ l.length).tm,(σ l.length).own):=by
   rw[<-xW h l.length (Gc _)];refine sF rs 0 _ λ i hi => ?_
   simp only[Sd];rw[nn i (by rw[hlen,<-h.len];exact hi)];simp;rw[<-h.len];exact hi
  rw[this]at m5 hf;exact hQ m a m5 hf
 have Qz : ∀ b9:Array Bool,iI b9 ops.size<=0 -> ∀ j,j<ops.size->b9.getD j false=true:=λ b9 h0 j hj=>by
  have h1:iI b9 ops.size=0:=D'
  unfold iI at h1;rw[List.countP_eq_zero]at h1;simpa using h1 j (by simpa using hj)
 intro fuel;induction fuel with
 | zero =>
  intro b9 a m cz hn hdn m5 hf;refine ⟨?_,final b9 a m (Qz b9 hn) m5 hf⟩;cases hr:Region.ready md ops b9 with
  | nil=>rfl
  | cons i r =>
   obtain ⟨h1,o,ho,_⟩:=mem_ready.1 (show i∈Region.ready md ops b9 by rw[hr];simp);have hi:i<ops.size:=(jb.1 ho).1;have h2:=Qz b9 hn i hi;have dw:i<b9.size:=D'
   simp [pd,dw]at h1 h2;rw[h1]at h2;cases h2
 | succ fuel ih =>
  intro b9 a m cz hn hdn m5 hf;refine ⟨λ hr=>final b9 a m (progress h.ok Tj cz hr) m5 hf,λ i hi => ?_⟩;obtain ⟨h1,o,ho,Mq⟩:=mem_ready.1 hi;have hio:i<ops.size:=(jb.1 ho).1;have dw:i<b9.size:=D'
  have Bm:b9.getD i false=false:=by
   simp [pd,dw]at h1 ⊢;exact h1
  have Dv:i<l.length:=D'
  have ff:i<rs.length:=by rw[h.len];exact Dv
  have hx:l[i]? = some l[i]:=zE Dv;have hr:rs[i]? = some rs[i]:=zE ff;have kr : ∀ o',ops[i]? = some o' -> ∀ e∈o'.after,Region.binds .any e=true->b9.getD e.on false=true:=λ o' Ih e he hb=>by
   rw[ho]at Ih;obtain rfl:o=o':=by simpa using Ih
   exact Mq e he (AkK hb md)
  obtain ⟨g1,g2,g3,g4⟩:=AmX h hx hr hdn Bm kr;have AuC:=(nL j7).2 i o l[i] (by simpa using ho) hx;have Fu : ∀ j,(b9.setIfInBounds i true).getD j false=(decide (j=i)||b9.getD j false):=λ j=>by
   by_cases hji:j=i
   ·subst hji;simp [pd,dw]
   ·rw[getD_set_ne false (Ne.symm hji)];simp [hji]
  refine AhP hC ho AuC hf g1 (λ hg=>by rw[m5];exact g2 hg) λ m' a' uo yd => ?_
  have vm:=g4 _ Fu;refine ih (b9.setIfInBounds i true) a' m' (by simpa using cz) ?_ ?_ ?_ ?_
  ·have n7:iI (b9.setIfInBounds i true) ops.size<iI b9 ops.size:=by
    refine AcY (x:=i) (λ j _ hj => ?_) (by simpa using hio) (by simp [Bm]) (by rw[Fu];simp);rw[Fu]at hj;simp at hj ⊢;exact hj.2
   omega
  ·intro j oj hj Py e he hb
   change (b9.setIfInBounds i true).getD j false=true at hj;show (b9.setIfInBounds i true).getD e.on false=true;rw[Fu]at hj ⊢;simp only[Hd,decide_eq_true_eq]at hj ⊢;rcases hj with rfl|hj
   ·exact .inr (kr oj Py e he hb)
   ·exact .inr (hdn j oj hj Py e he hb)
  ·rw[vm,uo,m5]
   rfl
  ·rw[vm]
   rw[m5,g3]at yd;have hd:(l[i]).dst=(rs[i]).d:=(h.fits i _ _ hx hr).d.symm;rw[hd]at yd;exact yd
theorem Atc (hC:LX P num C) {id:Nat} {l:List AI} (j7:ZO P num N ops ops.toList l=true) (hd:fG ops l=true) {st k8:St} (m4:F9 C l st=some k8) {m:M} {a:Act} (m5:m.own=st.own) (hf:J2 B S w0 m0 N (j6 st.tm) m a)
  (hQ : ∀ m' a',m'.own=k8.own->J2 B S w0 m0 N (j6 k8.tm) m' a'->Q .normal a' m'.w):(Code.region id ops true).wp P Q a m.w:=by
 obtain ⟨σ,rs,h0,h1,hl,h2⟩:=trace m4;have hD:pV C ops l σ rs:=⟨hd,hl,h2⟩;obtain ⟨ti,Mp⟩:=grow hf.mem ((Below.refl m.w.heap.size m.w).drew);have Dn:J2 B S w0 m0 N (j6 st.tm) ⟨m.ν,m.own,m.w.drew⟩ a:=⟨ti,hf.ext.trans Mp,λ i=>Mp.cv (hf.tm i),hf.size,hf.defers⟩;have Vl:HI (λ j=>(Kd ops.size false).getD j false) rs 0 (d0 σ)=d0 σ:=zK rs 0 _ λ i _=>by simp [pd]
 have key : ∀ md:Region.Mode,(md = .gc->Region.departs ops=true) -> ∀ t,wpOps P ops Q (Region.linearise md ops t) a m.w.drew:=λ md Tj t=>by
  refine wpAny_sound ops.size t (Kd ops.size false) a m.w.drew ?_;refine Atb hC j7 hD Tj (by rw[h1];exact hQ) ops.size _ a ⟨m.ν,m.own,m.w.drew⟩ p_ ?_ ?_ ?_ ?_
  ·unfold iI
   exact Te List.countP_le_length p_
  ·intro j o hj
   simp [pd]at hj
  ·rw[Vl];simp [d0,h0,m5]
  ·rw[Vl];simpa [d0,h0] using Dn
 refine wp_region_draw λ t => ?_
 change wpOps P ops Q _ a m.w.drew;unfold Region.schedule;split
 ·exact key .any (λ h=>by cases h) t
 ·rename_i Sj
  have hdp:Region.departs ops=true:=by simp at Sj;exact Sj.2
  split
  ·exact key .text (λ_=>hdp) _
  ·exact key .gc (λ_=>hdp) _
end
end Go.j4

namespace Go.j4
open Go.RowKit
section
variable {B:Nat} {S:Nat->Prop} {w0:World} {m0:M} {N:Nat}
variable {P:Program} {num:Nat->Nat} {C:Cl}
theorem AsK (m:Tm) (l:a_) (j:Nat):j6 (fp m l) j=j6 m j\/j6 (fp m l) j = .any:=by
 induction m with
 | nil=>exact .inl rfl
 | cons x r ih =>
  obtain ⟨i,v⟩:=x;simp only[fp];split
  ·by_cases h:j=i
   ·subst h
    rename_i hc;right
    clear ih;induction r with
    | nil=>rfl
    | cons y q ih =>
     obtain ⟨k,u⟩:=y;simp only[fp];split
     ·exact ih
     ·rename_i hk
      have : ¬ j=k:=λ e=>by subst e;exact hk hc
      simp only[j6,if_neg this];exact ih
   ·rcases ih with h1|h1
    ·left;simp only[j6,if_neg h];exact h1
    ·right;exact h1
  ·by_cases h:j=i
   ·left;simp [j6,h]
   ·simp only[j6,if_neg h]
    exact ih
inductive OC (P:Program) (num:Nat->Nat) (N:Nat):List It->List Item->Prop
 | nil:OC P num N [] []
 | code {c:Code} {a:DE} {k:List It} {t:List Item} (h:I0 P num N c a=true) (hk:OC P num N k t):OC P num N (.code a::k) (.code c::t)
 | drop {ts ss:a_} {k:List It} {t:List Item} (hk:OC P num N k t):OC P num N (.tu ts ss::k) t
 | g8 {id:Nat} {k:List It} {t:List Item} (hk:OC P num N k t):OC P num N (.g8 id::k) (.inBlock id::t)
 | lp {c:Code} {a:DE} {k:List It} {t:List Item} (h:I0 P num N c a=true) (hk:OC P num N k t):OC P num N (.lp a::k) (.inLoop c::t)
 | scope {c:Code} {k:List It} {t:List Item} (hk:OC P num N k t):OC P num N k (.inScope c::t)
theorem Ag3 {b:Frame} {a:Act} {k:List Item} {cs:List Frame} {w:World} {c:Code}:step P (lone (b.at a (.inScope c::k)) cs w) = .next (lone (b.at a k) cs w) :=
 step_lone_go (by simp [stepG,stepG.exec,Frame.at])
theorem Asy {b:Frame} {a:Act} {k:List Item} {cs:List Frame} {w:World} {c:Code}:step P (lone (b.at a (.code (.scope c)::k)) cs w) = .next (lone (b.at a (.code c :: .inScope c::k)) cs w) :=
 step_lone_go (by simp [stepG,stepG.exec,Frame.at])
theorem jS {id:Nat} : ∀ {k:List It} {t:List Item},OC P num N k t -> ∀ {k':List It},HN id k=some k' -> ∃ t',exitTo id t=some t'/\OC P num N k' t'
 | _,_,.nil,k',h=>by simp [HN]at h
 | _,_,.code h0 hk,k',h=>by
  simp only[HN]at h;obtain ⟨t',h1,h2⟩:=jS hk h;exact ⟨t',by simpa [exitTo] using h1,h2⟩
 | _,_,.drop hk,k',h=>by
  simp only[HN]at h;exact jS hk h
 | _,_,.g8 (id:=Wt) hk,k',h=>by
  simp only[HN]at h;split at h
  ·rename_i he
   subst he;simp only[ka]at h;subst h;exact ⟨_,by simp [exitTo],hk⟩
  ·rename_i he
   obtain ⟨t',h1,h2⟩:=jS hk h;exact ⟨t',by simpa [exitTo,he] using h1,h2⟩
 | _,_,.lp h0 hk,k',h=>by
  simp only[HN]at h;obtain ⟨t',h1,h2⟩:=jS hk h;exact ⟨t',by simpa [exitTo] using h1,h2⟩
 | _,_,.scope hk,k',h=>by
  obtain ⟨t',h1,h2⟩:=jS hk h;exact ⟨t',by simpa [exitTo] using h1,h2⟩
def AbS (B:Nat) (S:Nat->Prop) (w0:World) (m0:M) (N:Nat) (P:Program) (b:Frame) (cs:List Frame) (Avj:Machine) (k8:St):Prop :=
 ∃ a' m' o8,Steps P Avj (lone { b.at a' o8 with mode := .returning } cs m'.w)/\m'.own=k8.own/\J2 B S w0 m0 N (j6 k8.tm) m' a'
theorem ArX (hC:LX P num C) (b:Frame) (cs:List Frame) : ∀ (n:Nat) (k:List It) (st k8:St),run C n k st=some k8 -> ∀ (t:List Item),OC P num N k t -> ∀ (m:M) (a:Act),m.own=st.own->J2 B S w0 m0 N (j6 st.tm) m a ->
  AbS B S w0 m0 N P b cs (lone (b.at a t) cs m.w) k8:=by
 intro n;induction n with
 | zero=>intro k st k8 h;simp [run]at h
 | succ n ih =>
  intro k st k8 h t ht;have fin : ∀ (t:List Item),OC P num N [] t -> ∀ (m:M) (a:Act),m.own=st.own->J2 B S w0 m0 N (j6 st.tm) m a->st=k8->AbS B S w0 m0 N P b cs (lone (b.at a t) cs m.w) k8:=by
   intro t ht;generalize hk:([]:List It)=kk at ht;induction ht with
   | nil =>
    intro m a m5 hf he;subst he;exact ⟨a,m,[],.one step_end,m5,hf⟩
   | scope ql zw =>
    intro m a m5 hf he;obtain ⟨a',m',o8,h1,h2⟩:=zw hk m a m5 hf he;exact ⟨a',m',o8,.head Ag3 h1,h2⟩
   | code=>cases hk
   | drop=>cases hk
   | g8=>cases hk
   | lp=>cases hk
  cases k with
  | nil =>
   intro m a m5 hf;simp only[run,ka]at h;exact fin t ht m a m5 hf h
  | cons it k =>
   generalize na:it::k=kk at ht;induction ht with
   | nil=>cases na
   | scope ql zw =>
    intro m a m5 hf;obtain ⟨a',m',o8,h1,h2⟩:=zw na m a m5 hf;exact ⟨a',m',o8,.head Ag3 h1,h2⟩
   | @g8 id k2 t2 ql zw =>
    intro m a m5 hf;obtain ⟨rfl,rfl⟩:it = .g8 id/\k=k2:=by simpa using na
    simp only[run]at h;obtain ⟨a',m',o8,h1,h2⟩:=ih k st k8 h t2 ql m a m5 hf;exact ⟨a',m',o8,.head step_inBlock h1,h2⟩
   | @lp c ac k2 t2 j7 ql zw =>
    intro m a m5 hf;obtain ⟨rfl,rfl⟩:it = .lp ac/\k=k2:=by simpa using na
    simp only[run]at h;obtain ⟨a',m',o8,h1,h2⟩:=ih _ st k8 h (.code c :: .inLoop c::t2) (.code j7 (.lp j7 ql)) m a m5 hf;exact ⟨a',m',o8,.head step_inLoop h1,h2⟩
   | @drop ts ss k2 t2 ql zw =>
    intro m a m5 hf;obtain ⟨rfl,rfl⟩:it = .tu ts ss/\k=k2:=by simpa using na
    simp only[run]at h;obtain ⟨wy,he⟩:=AmZ hf.mem ss;have yd:J2 B S w0 m0 N (j6 (fp st.tm ts)) ⟨m.ν,m.own.drop ss,m.w⟩ a:=⟨wy,hf.ext.trans he,λ i=>by
     rcases AsK st.tm ts i with h1|h1
     ·rw[h1];exact he.cv (hf.tm i)
     ·rw[h1];exact .any _,hf.size,hf.defers⟩
    obtain ⟨a',m',o8,h1,h2,h3⟩:=ih k ⟨fp st.tm ts,st.own.drop ss⟩ k8 h t2 ql ⟨m.ν,m.own.drop ss,m.w⟩ a (by simp [m5]) yd;exact ⟨a',m',o8,h1,h2,h3⟩
   | @code c ac k2 t2 j7 ql zw =>
    obtain ⟨rfl,rfl⟩:it = .code ac/\k=k2:=by simpa using na
    clear zw na;intro m a m5 hf;cases ac with
    | dr ac ts ss =>
     simp only[I0]at j7;simp only[run]at h;exact ih _ st k8 h _ (.code j7 (.drop ql)) m a m5 hf
    | skip =>
     simp only[run]at h;cases c with
     | skip =>
      obtain ⟨a',m',o8,h1,h2⟩:=ih _ st k8 h _ ql m a m5 hf;exact ⟨a',m',o8,.head step_skip h1,h2⟩
     | label =>
      obtain ⟨a',m',o8,h1,h2⟩:=ih _ st k8 h _ ql m a m5 hf;exact ⟨a',m',o8,.head step_label h1,h2⟩
     | _=>simp [I0]at j7
    | scope ac =>
     simp only[run]at h;cases c with
     | scope c =>
      simp only[I0]at j7;obtain ⟨a',m',o8,h1,h2⟩:=ih _ st k8 h _ (.code j7 (.scope (c:=c) ql)) m a m5 hf;exact ⟨a',m',o8,.head Asy h1,h2⟩
     | _=>simp [I0]at j7
    | seq a1 a2 =>
     simp only[run]at h;cases c with
     | seq c1 c2 =>
      simp only[I0,Sb]at j7;obtain ⟨a',m',o8,h1,h2⟩:=ih _ st k8 h _ (.code j7.1 (.code j7.2 ql)) m a m5 hf;exact ⟨a',m',o8,.head step_seq h1,h2⟩
     | _=>simp [I0]at j7
    | cond x a1 a2 =>
     simp only[run]at h;cases c with
     | cond xc c1 c2 =>
      simp only[I0,Sb]at j7;have dh:CV B S m (st.ev x) (a.eval xc):=by rw[AdL];exact hf.says xc x j7.1.1
      split at h
      ·rename_i hx
       rw[hx]at dh;obtain ⟨a',m',o8,h1,h2⟩:=ih _ st k8 h _ (.code j7.1.2 ql) m a m5 hf;exact ⟨a',m',o8,.head (step_cond (eT dh)) h1,h2⟩
      ·rename_i hx
       rw[hx]at dh;obtain ⟨a',m',o8,h1,h2⟩:=ih _ st k8 h _ (.code j7.2 ql) m a m5 hf;exact ⟨a',m',o8,.head (step_cond (eT dh)) h1,h2⟩
      ·cases h
     | _=>simp [I0]at j7
    | block id ac =>
     simp only[run]at h;cases c with
     | block Wt c =>
      simp only[I0,Sb,beq_iff_eq]at j7;obtain ⟨rfl,j7⟩:=j7;obtain ⟨a',m',o8,h1,h2⟩:=ih _ st k8 h _ (.code j7 (.g8 ql)) m a m5 hf;exact ⟨a',m',o8,.head step_block h1,h2⟩
     | _=>simp [I0]at j7
    | loop ac =>
     simp only[run]at h;cases c with
     | loop c =>
      simp only[I0]at j7;obtain ⟨a',m',o8,h1,h2⟩:=ih _ st k8 h _ (.code j7 (.lp j7 ql)) m a m5 hf;exact ⟨a',m',o8,.head step_loop h1,h2⟩
     | _=>simp [I0]at j7
    | exit id =>
     simp only[run]at h;cases c with
     | exit Wt =>
      simp only[I0,beq_iff_eq]at j7;subst j7;split at h
      ·rename_i k' pc
       obtain ⟨t',e1,e2⟩:=jS ql pc;obtain ⟨a',m',o8,h1,h2⟩:=ih _ st k8 h _ e2 m a m5 hf;exact ⟨a',m',o8,.head (step_exit e1) h1,h2⟩
      ·cases h
     | _=>simp [I0]at j7
    | ret =>
     simp only[run,ka]at h;subst h;cases c with
     | ret=>exact ⟨a,m,.code .ret::t2,.one step_ret,m5,hf⟩
     | _=>simp [I0]at j7
    | ops l draw =>
     simp only[run]at h;split at h
     ·rename_i C3 Ur
      cases c with
      | region id ops Bd =>
       simp only[I0,Sb,beq_iff_eq]at j7;obtain ⟨⟨rfl,Tx⟩,Ad⟩:=j7;have hwp:(Code.region id ops Bd).wp P (λ e a' w'=>e = .normal /\ ∃ m',m'.w=w'/\m'.own=C3.own/\J2 B S w0 m0 N (j6 C3.tm) m' a') a m.w:=by
        cases Bd with
        | true=>exact Atc hC Tx (by simpa using Ad) Ur m5 hf λ m' a' h1 h2=>⟨rfl,m',rfl,h1,h2⟩
        | false =>
         refine wp_region ?_;rw[List.range_eq_range'];exact AhQ hC Tx ops.size 0 st C3 m a D' (by simpa using Ur) m5 hf λ m' a' h1 h2=>⟨rfl,m',rfl,h1,h2⟩
       obtain ⟨e,a1,w1,⟨rfl,m1,rfl,Tz,Dn⟩,AtP⟩:=hwp b t2 cs;obtain ⟨a',m',o8,h1,h2,h3⟩:=ih _ C3 k8 h _ ql m1 a1 Tz Dn;exact ⟨a',m',o8,Steps.trans AtP h1,h2,h3⟩
      | _=>simp [I0]at j7
     ·cases h
end
end Go.j4

namespace Go.j4
open Go.RowKit
section
variable {P:Program} {num:Nat->Nat} {L:Lib}
def ProgOK (P : Program) (num : Nat → Nat) (L : Lib) : Prop := (∀ f fa, L f = some fa → ∃ fn, P.funcs[num f]? = some fn ∧ okFn P num fn fa = true ∧ (fn.name == "runtime.NumGoroutine") = false) ∧ L.num = num
theorem AeN : ∀ (args:d_) (k i:Nat),j6 (FK k args) i=if k<=i then (match args[i-k]? with|some v=>v|none => .any) else .any
 | [],k,i=>by simp [FK,j6]
 | v::r,k,i=>by
  simp only[FK,j6];by_cases h:i=k
  ·subst h;simp
  ·rw[if_neg h,AeN r (k+1) i]
   by_cases h2:k<=i
   ·rw[if_pos h2,if_pos D']
    have:i-k=(i-(k+1))+1:=D'
    rw[this];simp
   ·rw[if_neg h2,if_neg D']
section
variable {B:Nat} {S:Nat->Prop} {w0:World} {m0:M} {N:Nat}
def tV (tmps:Array Value):ResultVar->Sem Value
 | .tmp t=>pure (tmps.getD t undef)
 | .cell x t=>do loadVar t (<-asAddr (tmps.getD x undef))
theorem AkN {m:M} {x v:AV} {u:Value} (h:P9 x=some v) (dh:CV B S m x u):CA B S m v u:=by
 cases dh with
 | any=>simp [P9]at h
 | e9=>simp [P9]at h
 | ca hc =>
  have:x=v:=by
   cases hc with
   | one hc=>cases hc with
    | rd hr=>cases hr<;>simpa [P9] using h
    | _=>simpa [P9] using h
   | fn=>simpa [P9] using h
   | Cm=>simpa [P9] using h
   | agg=>simpa [P9] using h
  subst this;exact hc
theorem Xa {m:M} {a:Act} {st:St} (hf:J2 B S w0 m0 N (j6 st.tm) m a) (m5:m.own=st.own) : ∀ {rv:List ResultVar} {ra:List Q7} {vs:d_},WC P rv ra=true->ra.mapM (JL st)=some vs ->
  ∃ us:List Value,(rv.mapM (tV a.tmps)).run P m.w = .ok us m.w/\vs.length=us.length /\ ∀ (j:Nat) (c:AV) (v:Value),vs[j]? = some c->us[j]? = some v->CA B S m c v
 | [],[],vs,_,h=>by
  simp at h;subst h;exact ⟨[],p_,rfl,λ j c v hc=>by simp at hc⟩
 | .tmp t::r,.tmp t'::l,vs,j7,h=>by
  simp only[WC,Sb,beq_iff_eq]at j7;obtain ⟨rfl,j7⟩:=j7;simp only[cd,We,He]at h;cases hv:JL st (.tmp t) with
  | none=>simp [hv]at h
  | some v =>
   cases hr:l.mapM (JL st) with
   | none=>simp [hv,hr]at h
   | some vr =>
    simp [hv,hr]at h;subst h;obtain ⟨us,h1,h2,h3⟩:=Xa hf m5 j7 hr;have dh:=hf.tm t;have wq:CA B S m v (a.tmps.getD t undef):=AkN hv dh;refine ⟨a.tmps.getD t undef::us,?_,by simp [h2],λ j c u hc hu => ?_⟩
    ·simp only[cd,Sem.run_bind,tV,Sem.run_pure,Result.andThen_ok,h1]
    ·cases j with
     | zero =>
      obtain rfl:v=c:=by simpa using hc
      obtain rfl:a.tmps.getD t undef=u:=Eb hu;exact wq
     | succ j=>exact h3 j c u (by simpa using hc) (by simpa using hu)
 | .cell x t::r,.cell x' agg n::l,vs,j7,h=>by
  simp only[WC,Sb,beq_iff_eq]at j7;obtain ⟨⟨⟨rfl,qo⟩,hn⟩,j7⟩:=j7;simp only[cd,We,He]at h;cases hv:JL st (.cell x agg n) with
  | none=>simp [hv]at h
  | some v =>
   cases hr:l.mapM (JL st) with
   | none=>simp [hv,hr]at h
   | some vr =>
    simp [hv,hr]at h;subst h;obtain ⟨us,h1,h2,h3⟩:=Xa hf m5 j7 hr;have dh:=hf.tm x;simp only[JL]at hv;split at hv
    ·rename_i s u i j hx
     rw[hx]at dh;split at hv
     ·rename_i cs qj
      rw[<-m5]at qj;obtain ⟨ad,gv,ht,hb⟩:=mD dh;obtain ⟨b,g,arr,e,u6,hg,iq,qm,q5,pg⟩:=AfT hf.mem qj;obtain ⟨ANb,py⟩:=sZ hv q5;have hld:=Xg (P:=P) t agg n (vW (by simpa using qo)) (by
       cases agg
       ·simpa using hn
       ·exact WH (by simpa using hn)) ad iq qm m.w (λ q u' hq=>by
       have n7:q<iq.length:=(zS hq).1;obtain ⟨Hq,ta⟩:=hg D';obtain ⟨g',lq,rfl⟩:=hb b u6;obtain rfl:g=g':=by rw[Hq]at lq;simpa using lq
       rw[M8,qT ta];exact pg q u' hq)
      have Aur:(tV a.tmps (.cell x t)).run P m.w = .ok (if agg then .agg iq.toArray else iq.getD 0 undef) m.w:=by
       show (do loadVar t (<-asAddr (a.tmps.getD x undef)):Sem Value).run P m.w=_;rw[gv];simpa [asAddr,Instr.loadAt,Instr.sureAddr] using hld
      have wq:CA B S m v (if agg then .agg iq.toArray else iq.getD 0 undef):=by
       unfold RH at hv;cases agg with
       | true =>
        simp only[if_true,ka]at hv;subst hv;exact .agg cs iq q5
       | false =>
        simp only[Sc,if_false]at hv ⊢;split at hv
        ·rename_i c
         simp only[ka]at hv;subst hv;obtain ⟨u',vu,fe⟩:=jI q5 (j:=0) (c:=c) rfl;simp only[Jf,vu,Le];exact .one fe
        ·cases hv
      refine ⟨(if agg then .agg iq.toArray else iq.getD 0 undef)::us,?_,by simp [h2],λ j' c u' hc hu => ?_⟩
      ·rw[cd,Sem.run_bind,Aur,Result.andThen_ok,Sem.run_bind,h1,Result.andThen_ok]
       rfl
      ·cases j' with
       | zero =>
        obtain rfl:v=c:=by simpa using hc
        obtain rfl:=Eb hu;exact wq
       | succ j'=>exact h3 j' c u' (by simpa using hc) (by simpa using hu)
     ·cases hv
    ·cases hv
 | [],_::_,_,j7,_=>by simp [WC]at j7
 | .tmp _::_,[],_,j7,_=>by simp [WC]at j7
 | .cell _ _::_,[],_,j7,_=>by simp [WC]at j7
 | .tmp _::_,.cell _ _ _::_,_,j7,_=>by simp [WC]at j7
 | .cell _ _::_,.tmp _::_,_,j7,_=>by simp [WC]at j7
end
theorem AcA (hP:ProgOK P num L) {f:Nat} {fa:AFn} (hL:L f=some fa) (us:Array Value) (w:World):(callFunc (num f) us).run P w = .ok (.enter (num f) us) w:=by
 obtain ⟨fn,h1,h2,h3⟩:=hP.1 f fa hL;have hb:fn.body.isNone=false:=by
  simp only[okFn,Sb]at h2;cases hbd:fn.body with
  | none=>rw[hbd]at h2;simp at h2
  | some c=>rfl
 unfold callFunc;simp only[Sem.run_bind,run_program,Result.andThen_ok,h1,h3,hb,Sc,if_false,Sem.run_pure]
theorem AeO (hP:ProgOK P num L) {n:Nat} (hC:LX P num (FA L n)) {f:Nat} {vs:d_} {own:BF} {r:AV} {m8:BF} (h:GR L (n+1) f vs own=some (r,m8)) (B:Nat) (S:Nat->Prop) (w0:World) (m:M) (us:List Value) (m5:m.own=own) (hm:DR B S w0 m) (hl:vs.length=us.length)
  (dh : ∀ (j:Nat) (c:AV) (v:Value),vs[j]? = some c->us[j]? = some v->CV B S m c v) :
  Calls P (num f) us.toArray m.w λ e w' => ∃ u m',e = .returned u/\m'.w=w'/\m'.own=m8/\DR B S w0 m'/\GY B S m m'/\CV B S m' r u:=by
 rw[mJ]at h;cases hL:L f with
 | none=>simp [hL]at h
 | some fa =>
  simp only[hL]at h;split at h
  ·rename_i Ud
   split at h
   ·rename_i st w5
    split at h
    ·rename_i rvs Eg
     simp only[ka,Prod.mk.injEq]at h;obtain ⟨rfl,rfl⟩:=h;obtain ⟨fn,h1,h2,h3⟩:=hP.1 f fa hL;simp only[okFn,Sb,beq_iff_eq,decide_eq_true_eq]at h2;obtain ⟨⟨⟨h4,h5⟩,h6⟩,h7⟩:=h2;split at h7
     ·rename_i c hc
      intro cs;have Mt:Frame.enter P (num f) us.toArray .normal=({ (default:Frame) with fn:=num f,kind := .normal }:Frame).at { tmps:=us.toArray++Kd (fn.ntmps-us.toArray.size) undef,defers:=[] } [.code c]:=by
       simp [Frame.enter,Frame.at,h1,hc]
      have cz:us.length=fa.gq:=by rw[<-hl];exact Ud
      have hf0:J2 B S w0 m fn.ntmps (j6 (FK 0 vs)) m { tmps:=us.toArray++Kd (fn.ntmps-us.toArray.size) undef,defers:=[] }:=by
       refine ⟨hm,GY.refl m,λ i => ?_,by simp;omega,rfl⟩;rw[AeN];simp only[Nat.zero_le,if_true,Nat.sub_zero];cases Wq:vs[i]? with
       | none=>exact .any _
       | some v =>
        have hi:i<us.length:=by rw[<-hl];exact (zS Wq).1
        have u6:(us.toArray++Kd (fn.ntmps-us.toArray.size) undef).getD i undef=us[i]:=by
         rw[Array.getD_eq_getD_getElem?,Se (by simpa using hi)];simp [hi]
        simp only[u6];exact dh i v us[i] Wq (zE hi)
      obtain ⟨a',m',o8,Od,uo,yd⟩:=ArX (m0:=m) hC { (default:Frame) with fn:=num f,kind := .normal } cs n [.code fa.body] ⟨FK 0 vs,own⟩ st w5 [.code c] (.code h7 .nil) m _ m5 hf0;obtain ⟨Gy,hu1,Ql,hu3⟩:=Xa (P:=P) yd uo h6 Eg;have Il:(results fn a'.tmps).run P m'.w = .ok (if h:Gy.length=1 then Gy[0] else .tuple Gy.toArray) m'.w:=by
       have hr:results fn a'.tmps=(do let vs <-fn.results.mapM (tV a'.tmps);pure (if h:vs.size=1 then vs[0] else .tuple vs)):=rfl;rw[hr,Sem.run_bind,Array.mapM_eq_mapM_toList];simp [hu1]
      refine ⟨.returned (if h:Gy.length=1 then Gy[0] else .tuple Gy.toArray),m'.w,_,⟨_,m',rfl,rfl,uo,yd.mem,yd.ext,?_⟩,by rw[Mt];exact Od,rfl,rfl,yd.defers,rfl,fn,h1,Il⟩;unfold N1;split
      ·rename_i v
       have Hc:Gy.length=1:=by rw[<-Ql];rfl
       rw[dif_pos Hc];exact .ca (hu3 0 v Gy[0] rfl (zE D'))
      ·rename_i n6
       have Hc : ¬ Gy.length=1:=λ e=>by
        rw[<-Ql]at e;cases rvs with
        | nil=>simp at e
        | cons q qs=>cases qs with
         | nil=>exact n6 q rfl
         | cons=>simp at e
       rw[dif_neg Hc];exact .e9 rvs Gy Ql hu3
     ·cases h7
    ·cases h
   ·cases h
  ·cases h
theorem AqD (S:Nat->Prop) (w:World):DR w.heap.size S w ⟨λ_ _=>none,BF.emp,w⟩ :=
 ⟨Below.refl _ _,Gc _,λ_ _ _=>rfl,λ s t b h=>by simp [BF.get,BF.emp]at h,λ s t s' t' b b' g h=>by simp [BF.get,BF.emp]at h⟩
theorem AdG {n f:Nat} {vs:d_} {own:BF} {r:AV × BF} (h:GR L n f vs own=some r) : ∃ fa,L f=some fa:=by
 cases n with
 | zero=>simp [GR]at h
 | succ n =>
  rw[mJ]at h;cases hL:L f with
  | none=>simp [hL]at h
  | some fa=>exact ⟨fa,rfl⟩
theorem Yf {n f:Nat} {vs:d_} {r:AV} (h:P2 (λ vs=>GR L n f vs BF.emp) vs=some r) : ∃ r0 o,GR L n f vs BF.emp=some (r0,o)/\dN o false r0=some r/\CI r:=by
 unfold P2 at h;cases he:GR L n f vs BF.emp with
 | none=>simp [he]at h
 | some x =>
  obtain ⟨r0,o⟩:=x;simp only[he]at h;split at h
  ·rename_i r' hr
   split at h
   ·rename_i hc
    simp only[ka]at h;subst h;exact ⟨r0,o,rfl,hr,hc⟩
   ·cases h
  ·cases h
theorem yI {n f:Nat} {vs:d_} {r:AV} (h:L7 L n f vs=some r) : ∃ iq,∃ x,GR L n f iq BF.emp=some x:=by
 unfold L7 TH at h;split at h
 ·split at h
  ·rename_i r1 r2 h1 h2
   obtain ⟨r0,o,h3,_⟩:=Yf h1;exact ⟨_,_,h3⟩
  ·cases h
 ·obtain ⟨r0,o,h3,_⟩:=Yf h
  exact ⟨_,_,h3⟩
theorem Yg (hP:ProgOK P num L) {n:Nat} (ih:LX P num (FA L n)) {f:Nat} {vs:d_} {r:AV} (h:P2 (λ vs=>GR L (n+1) f vs BF.emp) vs=some r) (S:Nat->Prop) (w:World) (us:List Value) (hl:vs.length=us.length)
  (wq : ∀ (j:Nat) (c:AV) (v:Value),vs[j]? = some c->us[j]? = some v->CA w.heap.size S ⟨λ_ _=>none,BF.emp,w⟩ c v) :
  Calls P (num f) us.toArray w λ e w' => ∃ u,e = .returned u/\Below w.heap.size w w'/\CV w.heap.size S ⟨λ_ _=>none,BF.emp,w'⟩ r u/\CI r:=by
 obtain ⟨r0,o,h1,h2,h3⟩:=Yf (L:=L) h;refine Calls.mono (AeO hP ih h1 w.heap.size S w ⟨λ_ _=>none,BF.emp,w⟩ us rfl (AqD S w) hl λ j c v hc hv => .ca (wq j c v hc hv)) λ e w' ⟨u,m',he,hw,m5,wy,_,dh⟩ => ?_
 subst hw;refine ⟨u,he,wy.below,?_,h3⟩;refine DV.cv (m:=⟨λ_ _=>none,BF.emp,m'.w⟩) (Asj wy false (safe w.heap.size S ⟨λ_ _=>none,BF.emp,m'.w⟩) (λ l b hb hs => ?_) (λ s t g te hg => ?_) (by rw[m5];exact h2) dh)
 ·rcases hs with h|⟨h,_⟩|h
  ·exact .inl h
  ·exact .inr (.inl ⟨h,λ s t te=>by simp [BF.get,BF.emp]at te⟩)
  ·exact .inr (.inr h)
 ·exact .inr (.inl ⟨(wy.ge te hg).1,λ s t te=>by simp [BF.get,BF.emp]at te⟩)
theorem AkR (hP:ProgOK P num L) : ∀ n,LX P num (FA L n):=by
 intro n;induction n with
 | zero =>
  exact ⟨λ f vs r h=>by obtain ⟨iq,x,h1⟩:=yI (L:=L) (n:=0) (f:=f) (vs:=vs) (r:=r) h;simp [GR]at h1,λ f vs own r h=>by change GR L 0 f vs own=some r at h;simp [GR]at h,
   λ f vs r h=>by obtain ⟨iq,x,h1⟩:=yI (L:=L) (n:=0) (f:=f) (vs:=vs) (r:=r) h;simp [GR]at h1,λ f vs own r m8 h=>by change GR L 0 f vs own=_ at h;simp [GR]at h,hP.2⟩
 | succ n ih =>
  refine ⟨λ f vs r h us w => ?_,λ f vs own r h us w => ?_,λ f vs r h S w us hl wq => ?_,λ f vs own r m8 h B S w0 m us m5 hm hl dh=>AeO hP ih h B S w0 m us m5 hm hl dh,hP.2⟩
  ·obtain ⟨iq,x,h1⟩:=yI (L:=L) h
   obtain ⟨fa,hL⟩:=AdG h1;exact AcA hP hL us w
  ·obtain ⟨fa,hL⟩:=AdG (L:=L) h
   exact AcA hP hL us w
  ·have h:TH (L.Ay f) (λ vs=>GR L (n+1) f vs BF.emp) vs=some r:=h
   unfold TH at h;split at h
   ·rename_i q iq _ _
    split at h
    ·rename_i r1 r2 h1 h2
     split at h
     ·rename_i e
      subst e;obtain rfl:=Eb h;cases us with
      | nil=>simp at hl
      | cons u us =>
       have h0:=wq 0 _ u rfl rfl;have hu : ∃ a cap,u = .slice a 0 cap:=by
        cases h0 with
        | one h0=>cases h0 with
         | rd h0=>cases h0 with
          | sj l a cap=>exact ⟨a,cap,rfl⟩
          | sl l es b o a9 cap u n6=>exact absurd rfl n6
       obtain ⟨a,cap,rfl⟩:=hu;have key : ∀ b,a.isNone=b -> ∀ (j:Nat) (c:AV) (v:Value),(AV.iz (.bool b)::iq)[j]? = some c->(Value.slice a 0 cap::us)[j]? = some v->CA w.heap.size S ⟨λ_ _=>none,BF.emp,w⟩ c v:=λ b hb j c v hc hv=>by
        cases j with
        | zero =>
         obtain rfl:=Eb hc;obtain rfl:=Eb hv;exact .one (.rd (.emp b a cap hb))
        | succ j=>exact wq (j+1) c v hc hv
       cases hb:a.isNone with
       | true=>exact Yg hP ih h1 S w _ (by simpa using hl) (key true hb)
       | false=>exact Yg hP ih h2 S w _ (by simpa using hl) (key false hb)
     ·cases h
    ·cases h
   ·exact Yg hP ih h S w us hl wq
end
end Go.j4
namespace Go.j4
abbrev OkF (P : Program) (num : Nat → Nat) (p : Nat × AFn) : Prop := ∃ fn, P.funcs[num p.1]? = some fn ∧ okFn P num fn p.2 = true ∧ (fn.name == "runtime.NumGoroutine") = false
theorem Arm {P:Program} {num:Nat->Nat} (l:List (Nat × AFn)) (h : ∀ p∈l,OkF P num p):ProgOK P num ⟨λ f=>l.lookup f,num⟩:=by
 refine ⟨?_,rfl⟩;intro f fa hf;have hm:(f,fa)∈l:=by
  clear h;change l.lookup f=some fa at hf;induction l with
  | nil=>simp at hf
  | cons x r ih =>
   obtain ⟨k,v⟩:=x;rw[List.lookup_cons]at hf;cases hk:(f == k) with
   | true =>
    rw[hk]at hf;have:f=k:=by simpa using hk
    subst this;simp at hf;simp [hf]
   | false =>
    rw[hk]at hf;exact List.mem_cons_of_mem _ (ih hf)
 exact h (f,fa) hm
end Go.j4

namespace Go.j4
section
variable {L:Lib}
def Cl.le (C C':Cl):Prop:=(∀ f vs r,C.pure f vs=some r->C'.pure f vs=some r)/\(∀ f vs o r,C.kv f vs o=some r->C'.kv f vs o=some r)/\C.num=C'.num
theorem Acj {x y:Option (AV × BF)} {r:Nat × c_} (h : ∀ q,x=some q->y=some q) (hr:WR x=some r):WR y=some r:=by
 cases x with
 | none=>simp [WR]at hr
 | some q=>rw[h q rfl];exact hr
theorem Am6 {C C':Cl} (h:C.le C') {b8:a_} {ρ:BM->AV} {own:BF} {op:HO} {E:ET} (he:g7 C b8 ρ own op=some E):g7 C' b8 ρ own op=some E:=by
 cases op with
 | call f xs =>
  simp only[g7]at he ⊢;split at he
  ·rename_i vs pg
   simp only[Sa]at he ⊢;obtain ⟨r,hr,rfl⟩:=he;exact ⟨r,h.1 f vs r hr,rfl⟩
  ·cases he
 | j5 f xs =>
  simp only[g7]at he ⊢;split at he
  ·simp only[Sa]at he ⊢
   obtain ⟨p,hp,rfl⟩:=he;have h1:=qQ hp;exact ⟨p,qP h1.1 λ o ho=>h.2.1 f _ o _ (h1.2 o ho),rfl⟩
  ·simp only[Sa]at he ⊢
   obtain ⟨r,hr,rfl⟩:=he;exact ⟨r,h.2.1 f _ own r hr,rfl⟩
 | Au p f xs=>simp only[g7]at he ⊢;rw[<-h.2.2];exact he
 | Bo f x=>simp only[g7]at he ⊢;rw[<-h.2.2];exact he
 | iy s f xs =>
  simp only[g7,Sa]at he ⊢;obtain ⟨p,hp,rfl⟩:=he;exact ⟨p,qS.2 λ o ho=>h.2.1 f _ o _ (qS.1 hp o ho),rfl⟩
 | bf s f xs =>
  simp only[g7]at he ⊢;split at he
  ·rename_i vs pg
   simp only[Sa]at he ⊢;obtain ⟨r,hr,rfl⟩:=he;exact ⟨r,Acj (h.2.1 f vs BF.emp) hr,rfl⟩
  ·cases he
 | l7 f xs =>
  simp only[g7]at he ⊢;split at he
  ·rename_i hq
   rw[if_pos hq];split at he
   ·rename_i r hr
    rw[h.1 _ _ r hr];exact he
   ·cases he
  ·cases he
 | q6 x xs =>
  simp only[g7]at he ⊢;rw[<-h.2.2];split at he
  ·split at he
   ·rename_i hg
    rw[if_pos hg];split at he
    ·split at he
     ·rename_i vs pg
      simp only[Sa]at he ⊢;obtain ⟨r,hr,rfl⟩:=he;exact ⟨r,h.1 _ vs r hr,rfl⟩
     ·cases he
    ·simp only[Sa]at he ⊢
     obtain ⟨r,hr,rfl⟩:=he;exact ⟨r,h.2.1 _ _ own r hr,rfl⟩
    ·split at he
     ·rename_i vs pg
      simp only[Sa]at he ⊢;obtain ⟨r,hr,rfl⟩:=he;exact ⟨r,h.1 _ vs r hr,rfl⟩
     ·cases he
   ·cases he
  ·cases he
 | _=>exact he
theorem Asw {C C':Cl} (h:C.le C') {o:AI} {st k8:St} (he:FY C o st=some k8):FY C' o st=some k8:=by
 unfold FY at he ⊢;split at he
 ·simp only[Sa]at he ⊢
  obtain ⟨E,h1,h2⟩:=he;exact ⟨E,Am6 h h1,h2⟩
 ·exact he
 ·exact he
theorem WI {C C':Cl} (h:C.le C') : ∀ {l:List AI} {st k8:St},F9 C l st=some k8->F9 C' l st=some k8
 | [],st,k8,he=>he
 | o::r,st,k8,he=>by
  simp only[F9]at he ⊢;cases hs:FY C o st with
  | none=>simp [hs]at he
  | some C3 =>
   rw[Asw h hs];simp only[hs]at he;exact WI h he
theorem Q3 {C C':Cl} (h:C.le C') : ∀ {n n':Nat} {k:List It} {st k8:St},n<=n'->run C n k st=some k8->run C' n' k st=some k8:=by
 intro n;induction n with
 | zero=>intro n' k st k8 _ hr;simp [run]at hr
 | succ n ih =>
  intro n' k st k8 hn hr;obtain ⟨q,rfl⟩ : ∃ q,n'=q+1:=⟨n'-1,D'⟩;have hq:n<=q:=D'
  cases k with
  | nil=>exact hr
  | cons it k =>
   cases it with
   | g8 id=>simp only[run]at hr ⊢;exact ih hq hr
   | tu ts ss=>simp only[run]at hr ⊢;exact ih hq hr
   | lp c=>simp only[run]at hr ⊢;exact ih hq hr
   | code c =>
    cases c with
    | skip=>simp only[run]at hr ⊢;exact ih hq hr
    | ops l d =>
     simp only[run]at hr ⊢;cases hs:F9 C l st with
     | none=>simp [hs]at hr
     | some C3 =>
      rw[WI h hs];simp only[hs]at hr;exact ih hq hr
    | dr c ts ss=>simp only[run]at hr ⊢;exact ih hq hr
    | scope c=>simp only[run]at hr ⊢;exact ih hq hr
    | seq a b=>simp only[run]at hr ⊢;exact ih hq hr
    | cond x a b =>
     simp only[run]at hr ⊢;split at hr
     ·exact ih hq hr
     ·exact ih hq hr
     ·cases hr
    | block id c=>simp only[run]at hr ⊢;exact ih hq hr
    | loop c=>simp only[run]at hr ⊢;exact ih hq hr
    | exit id =>
     simp only[run]at hr ⊢;split at hr
     ·exact ih hq hr
     ·cases hr
    | ret=>exact hr
theorem oB {I I':d_->Option (AV × BF)} (hI : ∀ vs r,I vs=some r->I' vs=some r) {vs:d_} {r:AV} (h:P2 I vs=some r):P2 I' vs=some r:=by
 unfold P2 at h ⊢;cases he:I vs with
 | none=>simp [he]at h
 | some x=>rw[hI vs _ he];simpa [he] using h
theorem Arn {b:Bool} {I I':d_->Option (AV × BF)} (hI : ∀ vs r,I vs=some r->I' vs=some r) {vs:d_} {r:AV} (h:TH b I vs=some r):TH b I' vs=some r:=by
 unfold TH at h ⊢;split at h
 ·split at h
  ·rename_i r1 r2 h1 h2
   rw[oB hI h1,oB hI h2];exact h
  ·cases h
 ·exact oB hI h
theorem AdS : ∀ (n:Nat),(FA L n).le (FA L (n+1)):=by
 have kv : ∀ n,(∀ f vs o r,GR L n f vs o=some r->GR L (n+1) f vs o=some r) -> ∀ f vs r,L7 L n f vs=some r->L7 L (n+1) f vs=some r:=by
  intro n hI f vs r h;exact Arn (λ vs r h=>hI f vs _ r h) h
 intro n;induction n with
 | zero =>
  have : ∀ f vs o r,GR L 0 f vs o=some r->GR L 1 f vs o=some r:=λ f vs o r h=>by simp [GR]at h
  exact ⟨kv 0 this,this,rfl⟩
 | succ n ih =>
  have : ∀ f vs o r,GR L (n+1) f vs o=some r->GR L (n+2) f vs o=some r:=λ f vs o r h=>by
   rw[mJ]at h ⊢;cases hL:L f with
   | none=>simp [hL]at h
   | some fn =>
    simp only[hL]at h ⊢;split at h
    ·rename_i hp
     rw[if_pos hp];cases hr:run (FA L n) n [.code fn.body] ⟨FK 0 vs,o⟩ with
     | none=>simp [hr]at h
     | some st =>
      rw[Q3 ih (Nat.le_succ n) hr];simpa [hr] using h
    ·cases h
  exact ⟨kv (n+1) this,this,rfl⟩
theorem I4 {n n':Nat} (h:n<=n'):(FA L n).le (FA L n'):=by
 induction h with
 | refl=>exact ⟨λ_ _ _ h=>h,λ_ _ _ _ h=>h,rfl⟩
 | step _ ih=>exact ⟨λ f vs r h=>(AdS _).1 f vs r (ih.1 f vs r h),λ f vs o r h=>(AdS _).2.1 f vs o r (ih.2.1 f vs o r h),rfl⟩
def Ev (L:Lib) (f:Nat) (vs:d_) (r:AV):Prop := ∃ n,L7 L n f vs=some r
def J8 (L:Lib) (f:Nat) (vs:d_) (r:AV):Prop := ∃ n,P2 (λ vs=>GR L n f vs BF.emp) vs=some r
def LL (L:Lib) (f:Nat) (vs:d_) (o:BF) (r:AV) (o':BF):Prop := ∃ n,GR L n f vs o=some (r,o')
def dU (L:Lib) (f:Nat) (vs:d_) (z:Nat) (es:c_):Prop := ∃ n,WR (GR L n f vs BF.emp)=some (z,es)
theorem Ev.Lc {f:Nat} {vs:d_} {r r':AV} (h:Ev L f vs r) (h':Ev L f vs r'):r=r':=by
 obtain ⟨n,hn⟩:=h;obtain ⟨n',zo⟩:=h';have h1:=(I4 (L:=L) (Nc n n')).1 f vs r hn;have h2:=(I4 (L:=L) (Wc n n')).1 f vs r' zo;rw[h1]at h2;exact Eb h2
theorem LL.Lc {f:Nat} {vs:d_} {o:BF} {r r':AV} {o1 o2:BF} (h:LL L f vs o r o1) (h':LL L f vs o r' o2):r=r'/\o1=o2:=by
 obtain ⟨n,hn⟩:=h;obtain ⟨n',zo⟩:=h';have h1:=(I4 (L:=L) (Nc n n')).2.1 f vs o _ hn;have h2:=(I4 (L:=L) (Wc n n')).2.1 f vs o _ zo;rw[h1]at h2;simpa using h2
def AK (L:Lib) (k:List It) (st:St) (Q:St->Prop):Prop := ∃ n c k8,run (FA L c) n k st=some k8/\Q k8
def AO (L:Lib) (l:List AI) (k:List It) (st:St) (Q:St->Prop):Prop := ∃ n c C3 k8,F9 (FA L c) l st=some C3/\run (FA L c) n k C3=some k8/\Q k8
variable {k:List It} {st:St} {Q:St->Prop}
theorem RV {it:It} {k':List It} {C3:St} (h : ∀ (C:Cl) (n:Nat),run C (n+1) (it::k) st=run C n k' C3):AK L (it::k) st Q↔AK L k' C3 Q:=by
 constructor
 ·rintro ⟨n,c,k8,hr,hq⟩
  cases n with
  | zero=>simp [run]at hr
  | succ n=>exact ⟨n,c,k8,by rw[<-h];exact hr,hq⟩
 ·rintro ⟨n,c,k8,hr,hq⟩
  exact ⟨n+1,c,k8,by rw[h];exact hr,hq⟩
theorem Aid:AK L [] st Q↔Q st:=by
 constructor
 ·rintro ⟨n,c,k8,hr,hq⟩
  cases n with
  | zero=>simp [run]at hr
  | succ n=>simp only[run,ka]at hr;exact hr ▸ hq
 ·exact λ h=>⟨1,0,st,rfl,h⟩
theorem Ah5 {id:Nat}:AK L (.g8 id::k) st Q↔AK L k st Q:=RV λ_ _=>rfl
theorem Ah9 {ts ss:a_}:AK L (.tu ts ss::k) st Q↔AK L k ⟨fp st.tm ts,st.own.drop ss⟩ Q:=RV λ_ _=>rfl
theorem AbL {c:DE}:AK L (.lp c::k) st Q↔AK L (.code c :: .lp c::k) st Q:=RV λ_ _=>rfl
theorem Aii:AK L (.code .skip::k) st Q↔AK L k st Q:=RV λ_ _=>rfl
theorem Ah8 {c:DE} {ts ss:a_}:AK L (.code (.dr c ts ss)::k) st Q↔AK L (.code c :: .tu ts ss::k) st Q:=RV λ_ _=>rfl
theorem Aig {c:DE}:AK L (.code (.scope c)::k) st Q↔AK L (.code c::k) st Q:=RV λ_ _=>rfl
theorem Aih {a b:DE}:AK L (.code (.seq a b)::k) st Q↔AK L (.code a :: .code b::k) st Q:=RV λ_ _=>rfl
theorem Ah6 {id:Nat} {c:DE}:AK L (.code (.block id c)::k) st Q↔AK L (.code c :: .g8 id::k) st Q:=RV λ_ _=>rfl
theorem Aib {c:DE}:AK L (.code (.loop c)::k) st Q↔AK L (.code c :: .lp c::k) st Q:=RV λ_ _=>rfl
theorem Aia {id:Nat} {k':List It} (h:HN id k=some k'):AK L (.code (.exit id)::k) st Q↔AK L k' st Q:=RV λ C n=>by simp [run,h]
theorem Aif:AK L (.code .ret::k) st Q↔Q st:=by
 constructor
 ·rintro ⟨n,c,k8,hr,hq⟩
  cases n with
  | zero=>simp [run]at hr
  | succ n=>simp only[run,ka]at hr;exact hr ▸ hq
 ·exact λ h=>⟨1,0,st,rfl,h⟩
theorem Ah7 {x:BM} {a b:DE} {t:Bool} (h:st.ev x = .bool t):AK L (.code (.cond x a b)::k) st Q↔if t=true then AK L (.code a::k) st Q else AK L (.code b::k) st Q:=by
 cases t
 ·simpa using RV (k' := .code b::k) (C3:=st) λ C n=>by simp [run,h]
 ·simpa using RV (k' := .code a::k) (C3:=st) λ C n=>by simp [run,h]
theorem Aie {l:List AI} {d:Bool}:AK L (.code (.ops l d)::k) st Q↔AO L l k st Q:=by
 constructor
 ·rintro ⟨n,c,k8,hr,hq⟩
  cases n with
  | zero=>simp [run]at hr
  | succ n =>
   simp only[run]at hr;split at hr
   ·rename_i C3 hs
    exact ⟨n,c,C3,k8,hs,hr,hq⟩
   ·cases hr
 ·rintro ⟨n,c,C3,k8,hs,hr,hq⟩
  exact ⟨n+1,c,k8,by simp [run,hs,hr],hq⟩
theorem Ait:AO L [] k st Q↔AK L k st Q:=by
 constructor
 ·rintro ⟨n,c,C3,k8,hs,hr,hq⟩
  simp only[F9,ka]at hs;exact ⟨n,c,k8,hs ▸ hr,hq⟩
 ·rintro ⟨n,c,k8,hr,hq⟩
  exact ⟨n,c,st,k8,rfl,hr,hq⟩
theorem AiF {o:AI} {l:List AI} {C3:St} (h : ∀ C,FY C o st=some C3):AO L (o::l) k st Q↔AO L l k C3 Q:=by
 constructor
 ·rintro ⟨n,c,DM,k8,hs,hr,hq⟩
  simp only[F9,h]at hs;exact ⟨n,c,DM,k8,hs,hr,hq⟩
 ·rintro ⟨n,c,DM,k8,hs,hr,hq⟩
  exact ⟨n,c,DM,k8,by simpa only[F9,h] using hs,hr,hq⟩
theorem Aiw {d:Option Nat} {op:HO} {g:Option (Nat × Bool)} {b8:a_} {l:List AI} (h:JP st g=some false):AO L (⟨d,op,g,b8⟩::l) k st Q↔AO L l k (st.dst d (.e9 [])) Q :=
 AiF λ C=>by simp [FY,h]
theorem jH (c:Nat):(FA L c).num=L.num:=rfl
theorem AiC {d:Option Nat} {op:HO} {g:Option (Nat × Bool)} {b8:a_} {l:List AI} {E:ET} (h:JP st g=some true) (he : ∀ c,g7 (FA L c) b8 st.ev st.own op=some E):AO L (⟨d,op,g,b8⟩::l) k st Q↔AO L l k (st.app d E) Q:=by
 have h : ∀ c,FY (FA L c) ⟨d,op,g,b8⟩ st=some (st.app d E):=λ c=>by simp [FY,h,he]
 constructor
 ·rintro ⟨n,c,DM,k8,hs,hr,hq⟩
  simp only[F9,h]at hs;exact ⟨n,c,DM,k8,hs,hr,hq⟩
 ·rintro ⟨n,c,DM,k8,hs,hr,hq⟩
  exact ⟨n,c,DM,k8,by simpa only[F9,h] using hs,hr,hq⟩
theorem Ail {d:Option Nat} {f:Nat} {xs:List BM} {g:Option (Nat × Bool)} {b8:a_} {l:List AI} {vs:d_} {r:AV} (h:JP st g=some true) (hv:(xs.map st.ev).mapM (F4 (st.own.o5 b8) true)=some vs) (hr:Ev L f vs r) :
  AO L (⟨d,.call f xs,g,b8⟩::l) k st Q↔AO L l k (st.dst d r) Q:=by
 have m4 : ∀ c r',L7 L c f vs=some r'->FY (FA L c) ⟨d,.call f xs,g,b8⟩ st=some (st.dst d r'):=λ c r' hc=>by
  have cn:(FA L c).pure f vs=some r':=hc;simp [FY,h,g7,hv,cn,St.app]
 constructor
 ·rintro ⟨n,c,DM,k8,hs,ku,hq⟩
  simp only[F9]at hs;cases hI:FY (FA L c) ⟨d,.call f xs,g,b8⟩ st with
  | none=>simp [hI]at hs
  | some C3 =>
   simp only[hI]at hs;cases hp:L7 L c f vs with
   | none =>
    have cn:(FA L c).pure f vs=none:=hp;simp [FY,h,g7,hv,cn]at hI
   | some r' =>
    obtain rfl:r'=r:=Ev.Lc ⟨c,hp⟩ hr;rw[m4 c r' hp]at hI;obtain rfl:=Eb hI;exact ⟨n,c,DM,k8,hs,ku,hq⟩
 ·rintro ⟨n,c,DM,k8,hs,ku,hq⟩
  obtain ⟨c',cn⟩:=hr;have l1:=I4 (L:=L) (Nc c c');have l2:=I4 (L:=L) (Wc c c');refine ⟨n,max c c',DM,k8,?_,Q3 l1 (Gc n) ku,hq⟩;simp only[F9];rw[m4 (max c c') r (l2.1 f vs r cn)];exact WI l1 hs
theorem Aio {d:Option Nat} {f:Nat} {x:BM} {xs:List BM} {g:Option (Nat × Bool)} {b8:a_} {l:List AI} {vs:d_} {r:AV} (h:JP st g=some true) (hx:st.ev x = .fn true f (L.num f) []) (hv:(xs.map st.ev).mapM (F4 st.own true)=some vs) (hr:Ev L f vs r) :
  AO L (⟨d,.q6 x xs,g,b8⟩::l) k st Q↔AO L l k (st.dst d r) Q:=by
 have m4 : ∀ c r',L7 L c f vs=some r'->FY (FA L c) ⟨d,.q6 x xs,g,b8⟩ st=some (st.dst d r'):=λ c r' hc=>by
  have cn:(FA L c).pure f vs=some r':=hc;simp [FY,h,g7,hx,jH,hv,cn,St.app]
 constructor
 ·rintro ⟨n,c,DM,k8,hs,ku,hq⟩
  simp only[F9]at hs;cases hI:FY (FA L c) ⟨d,.q6 x xs,g,b8⟩ st with
  | none=>simp [hI]at hs
  | some C3 =>
   simp only[hI]at hs;cases hp:L7 L c f vs with
   | none =>
    have cn:(FA L c).pure f vs=none:=hp;simp [FY,h,g7,hx,jH,hv,cn]at hI
   | some r' =>
    obtain rfl:r'=r:=Ev.Lc ⟨c,hp⟩ hr;rw[m4 c r' hp]at hI;obtain rfl:=Eb hI;exact ⟨n,c,DM,k8,hs,ku,hq⟩
 ·rintro ⟨n,c,DM,k8,hs,ku,hq⟩
  obtain ⟨c',cn⟩:=hr;have l1:=I4 (L:=L) (Nc c c');have l2:=I4 (L:=L) (Wc c c');refine ⟨n,max c c',DM,k8,?_,Q3 l1 (Gc n) ku,hq⟩;simp only[F9];rw[m4 (max c c') r (l2.1 f vs r cn)];exact WI l1 hs
theorem Aim {d:Option Nat} {f:Nat} {w:AV} {cs:d_} {x:BM} {xs:List BM} {g:Option (Nat × Bool)} {b8:a_} {l:List AI} {vs:d_} {r:AV} (h:JP st g=some true) (hx:st.ev x = .fn true f (L.num f) (w::cs)) (hv:(AV.agg (w::cs)::xs.map st.ev).mapM (F4 st.own true)=some vs) (hr:Ev L f vs r) :
  AO L (⟨d,.q6 x xs,g,b8⟩::l) k st Q↔AO L l k (st.dst d r) Q:=by
 have m4 : ∀ c r',L7 L c f vs=some r'->FY (FA L c) ⟨d,.q6 x xs,g,b8⟩ st=some (st.dst d r'):=λ c r' hc=>by
  have cn:(FA L c).pure f vs=some r':=hc;simp [FY,h,g7,hx,jH,hv,cn,St.app]
 constructor
 ·rintro ⟨n,c,DM,k8,hs,ku,hq⟩
  simp only[F9]at hs;cases hI:FY (FA L c) ⟨d,.q6 x xs,g,b8⟩ st with
  | none=>simp [hI]at hs
  | some C3 =>
   simp only[hI]at hs;cases hp:L7 L c f vs with
   | none =>
    have cn:(FA L c).pure f vs=none:=hp;simp [FY,h,g7,hx,jH,hv,cn]at hI
   | some r' =>
    obtain rfl:r'=r:=Ev.Lc ⟨c,hp⟩ hr;rw[m4 c r' hp]at hI;obtain rfl:=Eb hI;exact ⟨n,c,DM,k8,hs,ku,hq⟩
 ·rintro ⟨n,c,DM,k8,hs,ku,hq⟩
  obtain ⟨c',cn⟩:=hr;have l1:=I4 (L:=L) (Nc c c');have l2:=I4 (L:=L) (Wc c c');refine ⟨n,max c c',DM,k8,?_,Q3 l1 (Gc n) ku,hq⟩;simp only[F9];rw[m4 (max c c') r (l2.1 f vs r cn)];exact WI l1 hs
theorem Aip {d:Option Nat} {f:Nat} {xs:List BM} {g:Option (Nat × Bool)} {b8:a_} {l:List AI} {r:AV} (h:JP st g=some true) (hq:(xs.map st.ev).all dq=true) (hr:Ev L f ((xs.map st.ev).map Gv) r) (jk:Q9 r\/dT r) :
  AO L (⟨d,.l7 f xs,g,b8⟩::l) k st Q↔AO L l k (st.dst d (V7 r)) Q:=by
 have m4 : ∀ c,L7 L c f ((xs.map st.ev).map Gv)=some r->FY (FA L c) ⟨d,.l7 f xs,g,b8⟩ st=some (st.dst d (V7 r)):=λ c hc=>by
  have cn:(FA L c).pure f ((xs.map st.ev).map Gv)=some r:=hc;simp only[FY,h,g7];rw[if_pos hq,cn];simp only[if_pos jk,Qc,St.app]
 constructor
 ·rintro ⟨n,c,DM,k8,hs,ku,Jy⟩
  simp only[F9]at hs;cases hp:L7 L c f ((xs.map st.ev).map Gv) with
  | none =>
   have cn:(FA L c).pure f ((xs.map st.ev).map Gv)=none:=hp;simp only[FY,h,g7]at hs;rw[if_pos hq,cn]at hs;simp at hs
  | some r' =>
   obtain rfl:r'=r:=Ev.Lc ⟨c,hp⟩ hr;rw[m4 c hp]at hs;exact ⟨n,c,DM,k8,hs,ku,Jy⟩
 ·rintro ⟨n,c,DM,k8,hs,ku,Jy⟩
  obtain ⟨c',cn⟩:=hr;have l1:=I4 (L:=L) (Nc c c');have l2:=I4 (L:=L) (Wc c c');refine ⟨n,max c c',DM,k8,?_,Q3 l1 (Gc n) ku,Jy⟩;simp only[F9];rw[m4 (max c c') (l2.1 f _ r cn)];exact WI l1 hs
theorem Aiq {d:Option Nat} {s f:Nat} {xs:List BM} {g:Option (Nat × Bool)} {b8:a_} {l:List AI} {vs:d_} {z:Nat} {es:c_} (h:JP st g=some true) (hv:(xs.map st.ev).mapM (YK (st.own.o5 b8) true)=some vs) (hr:dU L f vs z es)
  (ha:AO L l k (st.app d (.new s ⟨z,es⟩ (λ t => .row s t z 0 es.length))) Q):AO L (⟨d,.bf s f xs,g,b8⟩::l) k st Q:=by
 obtain ⟨n,c,DM,k8,hs,ku,hq⟩:=ha;obtain ⟨c',cn⟩:=hr;have l1:=I4 (L:=L) (Nc c c');have l2:=I4 (L:=L) (Wc c c');have uf:WR ((FA L (max c c')).kv f vs BF.emp)=some (z,es):=Acj (l2.2.1 f vs BF.emp) cn;refine ⟨n,max c c',DM,k8,?_,Q3 l1 (Gc n) ku,hq⟩;simp only[F9];have:FY (FA L (max c c')) ⟨d,.bf s f xs,g,b8⟩ st=some (st.app d (.new s ⟨z,es⟩ (λ t => .row s t z 0 es.length))):=by
  simp only[FY,h,g7,hv,uf,Qc]
 rw[this];exact WI l1 hs
def EvS (L:Lib) (s f:Nat) (vs:d_) (q:EV) (r:AV) (q':EV):Prop := ∃ n,∀ o:BF,o s=q->GR L n f vs o=some (r,o.put s q')
theorem Ais {d:Option Nat} {s f:Nat} {xs:List BM} {g:Option (Nat × Bool)} {b8:a_} {l:List AI} {r:AV} {q':EV} (h:JP st g=some true) (hr:EvS L s f (xs.map st.ev) (st.own s) r q')
  (ha:AO L l k (st.app d (.Gw s q' r)) Q):AO L (⟨d,.iy s f xs,g,b8⟩::l) k st Q:=by
 obtain ⟨n,c,DM,k8,hs,ku,hq⟩:=ha;obtain ⟨c',cn⟩:=hr;have l1:=I4 (L:=L) (Nc c c');have l2:=I4 (L:=L) (Wc c c');have uf:qR (FA L (max c c')) f (xs.map st.ev) s (st.own s)=some (r,q'):=qS.2 λ o ho=>l2.2.1 f _ o _ (cn o ho)
 refine ⟨n,max c c',DM,k8,?_,Q3 l1 (Gc n) ku,hq⟩;simp only[F9];have:FY (FA L (max c c')) ⟨d,.iy s f xs,g,b8⟩ st=some (st.app d (.Gw s q' r)):=by
  simp only[FY,h,g7,uf,Qc]
 rw[this];exact WI l1 hs
theorem Aik {d:Option Nat} {f s:Nat} {xs:List BM} {g:Option (Nat × Bool)} {l:List AI} {r:AV} {o':BF} (h:JP st g=some true) (h0:o' s=⟨0,λ_=>none⟩) (hr : ∃ n,∀ o:BF,(∀ q,q≠s->o q=st.own q)->GR L n f (xs.map st.ev) o=some (r,o'.put s (o s)))
  (ha:AO L l k { (st.dst d r) with own:=o'.put s (st.own s) } Q):AO L (⟨d,.j5 f xs,g,[s]⟩::l) k st Q:=by
 obtain ⟨n,c,DM,k8,hs,ku,hq⟩:=ha;obtain ⟨c',cn⟩:=hr;have l1:=I4 (L:=L) (Nc c c');have l2:=I4 (L:=L) (Wc c c');have uf:WS (FA L (max c c')) f (xs.map st.ev) s st.own=some (r,o'):=qP h0 λ o ho=>l2.2.1 f _ o _ (cn o ho)
 refine ⟨n,max c c',DM,k8,?_,Q3 l1 (Gc n) ku,hq⟩;simp only[F9];have:FY (FA L (max c c')) ⟨d,.j5 f xs,g,[s]⟩ st=some { (st.dst d r) with own:=o'.put s (st.own s) }:=by
  simp only[FY,h,g7,uf,Qc,St.app]
 rw[this];exact WI l1 hs
theorem Ain {d:Option Nat} {f:Nat} {xs:List BM} {g:Option (Nat × Bool)} {b8:a_} {l:List AI} {r:AV} {o':BF} (hb : ∀ s,b8≠[s]) (h:JP st g=some true) (hr:LL L f (xs.map st.ev) st.own r o') :
  AO L (⟨d,.j5 f xs,g,b8⟩::l) k st Q↔AO L l k { (st.dst d r) with own:=o' } Q:=by
 have m4 : ∀ c r' o1,GR L c f (xs.map st.ev) st.own=some (r',o1)->FY (FA L c) ⟨d,.j5 f xs,g,b8⟩ st=some { (st.dst d r') with own:=o1 }:=λ c r' o1 hc=>by
  have cn:(FA L c).kv f (xs.map st.ev) st.own=some (r',o1):=hc;have he:g7 (FA L c) b8 st.ev st.own (.j5 f xs)=some (.kb r' o1):=by
   match b8,hb with
   | [],_=>simp only[g7];rw[cn];rfl
   | [s],hb=>exact absurd rfl (hb s)
   | s::s'::q,_=>simp only[g7];rw[cn];rfl
  simp [FY,h,he,St.app]
 constructor
 ·rintro ⟨n,c,DM,k8,hs,ku,hq⟩
  simp only[F9]at hs;cases hI:FY (FA L c) ⟨d,.j5 f xs,g,b8⟩ st with
  | none=>simp [hI]at hs
  | some C3 =>
   simp only[hI]at hs;cases hp:GR L c f (xs.map st.ev) st.own with
   | none =>
    have cn:(FA L c).kv f (xs.map st.ev) st.own=none:=hp;have he:g7 (FA L c) b8 st.ev st.own (.j5 f xs)=none:=by
     match b8,hb with
     | [],_=>simp only[g7];rw[cn];rfl
     | [s],hb=>exact absurd rfl (hb s)
     | s::s'::q,_=>simp only[g7];rw[cn];rfl
    simp [FY,h,he]at hI
   | some x =>
    obtain ⟨r',o1⟩:=x;obtain ⟨rfl,rfl⟩:=LL.Lc ⟨c,hp⟩ hr;rw[m4 c r' o1 hp]at hI;obtain rfl:=Eb hI;exact ⟨n,c,DM,k8,hs,ku,hq⟩
 ·rintro ⟨n,c,DM,k8,hs,ku,hq⟩
  obtain ⟨c',cn⟩:=hr;have l1:=I4 (L:=L) (Nc c c');have l2:=I4 (L:=L) (Wc c c');refine ⟨n,max c c',DM,k8,?_,Q3 l1 (Gc n) ku,hq⟩;simp only[F9];rw[m4 (max c c') r o' (l2.2.1 f _ _ _ cn)];exact WI l1 hs
theorem Air {d:Option Nat} {f:Nat} {cs:d_} {x:BM} {xs:List BM} {g:Option (Nat × Bool)} {b8:a_} {l:List AI} {r:AV} {o':BF} (h:JP st g=some true) (hx:st.ev x = .fn false f (L.num f) cs) (hr:LL L f (xs.map st.ev++cs) st.own r o') :
  AO L (⟨d,.q6 x xs,g,b8⟩::l) k st Q↔AO L l k { (st.dst d r) with own:=o' } Q:=by
 have m4 : ∀ c r' o1,GR L c f (xs.map st.ev++cs) st.own=some (r',o1)->FY (FA L c) ⟨d,.q6 x xs,g,b8⟩ st=some { (st.dst d r') with own:=o1 }:=λ c r' o1 hc=>by
  have cn:(FA L c).kv f (xs.map st.ev++cs) st.own=some (r',o1):=hc;simp [FY,h,g7,hx,jH,cn,St.app]
 constructor
 ·rintro ⟨n,c,DM,k8,hs,ku,hq⟩
  simp only[F9]at hs;cases hI:FY (FA L c) ⟨d,.q6 x xs,g,b8⟩ st with
  | none=>simp [hI]at hs
  | some C3 =>
   simp only[hI]at hs;cases hp:GR L c f (xs.map st.ev++cs) st.own with
   | none =>
    have cn:(FA L c).kv f (xs.map st.ev++cs) st.own=none:=hp;simp [FY,h,g7,hx,jH,cn]at hI
   | some x =>
    obtain ⟨r',o1⟩:=x;obtain ⟨rfl,rfl⟩:=LL.Lc ⟨c,hp⟩ hr;rw[m4 c r' o1 hp]at hI;obtain rfl:=Eb hI;exact ⟨n,c,DM,k8,hs,ku,hq⟩
 ·rintro ⟨n,c,DM,k8,hs,ku,hq⟩
  obtain ⟨c',cn⟩:=hr;have l1:=I4 (L:=L) (Nc c c');have l2:=I4 (L:=L) (Wc c c');refine ⟨n,max c c',DM,k8,?_,Q3 l1 (Gc n) ku,hq⟩;simp only[F9];rw[m4 (max c c') r o' (l2.2.1 f _ _ _ cn)];exact WI l1 hs
theorem Aic {Q':St->Prop} (h:AK L k st Q) (hq : ∀ s,Q s->Q' s):AK L k st Q':=by
 obtain ⟨n,c,k8,hr,hh⟩:=h;exact ⟨n,c,k8,hr,hq _ hh⟩
theorem LL.intro {f:Nat} {fn:AFn} {vs:d_} {o:BF} {r:AV} {o':BF} (hL:L f=some fn) (hp:vs.length=fn.gq) (h:AK L [.code fn.body] ⟨FK 0 vs,o⟩ (λ st=>(fn.res.mapM (JL st)).map N1=some r/\st.own=o')):LL L f vs o r o':=by
 obtain ⟨n,c,k8,hr,h1,h2⟩:=h;refine ⟨max n c+1,?_⟩;rw[mJ];simp only[hL,hp,if_true];rw[Q3 (I4 (L:=L) (Wc n c)) (Nc n c) hr];cases hm:fn.res.mapM (JL k8) with
 | none=>rw[hm]at h1;cases h1
 | some rs =>
  rw[hm]at h1;simp only[Qc,ka]at h1;simp [hm,h1,h2]
theorem J8.intro {f:Nat} {fn:AFn} {vs:d_} {r:AV} (hL:L f=some fn) (hp:vs.length=fn.gq) (h:AK L [.code fn.body] ⟨FK 0 vs,BF.emp⟩ (λ st=>((fn.res.mapM (JL st)).map N1).bind (dN st.own false)=some r/\CI r)):J8 L f vs r:=by
 obtain ⟨n,c,k8,hr,h1,h2⟩:=h;cases hm:(fn.res.mapM (JL k8)).map N1 with
 | none=>rw[hm]at h1;cases h1
 | some r0 =>
  rw[hm]at h1;simp only[Qg]at h1;obtain ⟨q,hq⟩:=LL.intro (o:=BF.emp) (r:=r0) (o':=k8.own) hL hp ⟨n,c,k8,hr,hm,rfl⟩;refine ⟨q,?_⟩;unfold P2;simp [hq,h1,h2]
theorem J8.ev {f:Nat} {fn:AFn} {vs:d_} {r:AV} (hL:L f=some fn) (h:J8 L f vs r) (hs:fn.Ay=false:=by rfl):Ev L f vs r:=by
 obtain ⟨n,h⟩:=h;have hs:L.Ay f=false:=by simp only[Lib.Ay,hL,hs]
 exact ⟨n,by unfold L7 TH;rw[hs];exact h⟩
theorem J8.cons {f:Nat} {q:Bool} {e:d_} {es:c_} {vs:d_} {r:AV} (h:J8 L f (.sl q (e::es)::vs) r):Ev L f (.sl q (e::es)::vs) r:=by
 obtain ⟨n,h⟩:=h;refine ⟨n,?_⟩;unfold L7 TH;split
 ·rename_i heq;simp at heq
 ·exact h
theorem J8.nil {f:Nat} {fn:AFn} {q:Bool} {vs:d_} {r:AV} (hL:L f=some fn) (h1:J8 L f (.iz (.bool true)::vs) r) (h2:J8 L f (.iz (.bool false)::vs) r) (hs:fn.Ay=true:=by rfl):Ev L f (.sl q []::vs) r:=by
 obtain ⟨n,h1⟩:=h1;obtain ⟨n',h2⟩:=h2;have hs:L.Ay f=true:=by simp only[Lib.Ay,hL,hs]
 have k1:=oB (λ vs r h=>(I4 (L:=L) (Nc n n')).2.1 f vs BF.emp r h) h1;have k2:=oB (λ vs r h=>(I4 (L:=L) (Wc n n')).2.1 f vs BF.emp r h) h2;refine ⟨max n n',?_⟩;unfold L7 TH;rw[hs];simp only;have k1':P2 (λ vs=>GR L (max n n') f vs BF.emp) (.iz (.bool true)::vs)=some r:=k1;have k2':P2 (λ vs=>GR L (max n n') f vs BF.emp) (.iz (.bool false)::vs)=some r:=k2;rw[k1',k2'];simp
theorem Ev.intro {f:Nat} {fn:AFn} {vs:d_} {r:AV} (hL:L f=some fn) (hp:vs.length=fn.gq) (h:AK L [.code fn.body] ⟨FK 0 vs,BF.emp⟩ (λ st=>((fn.res.mapM (JL st)).map N1).bind (dN st.own false)=some r/\CI r)) (hs:fn.Ay=false:=by rfl):Ev L f vs r :=
 (J8.intro hL hp h).ev hL hs
end
end Go.j4

namespace Go.j4
section
variable {L:Lib} {k:List It} {tm:Tm} {own:BF} {Q:St->Prop} {l:List AI} {b8:a_} {d:Nat}
theorem pC (i:Nat) (v:AV) (r:Tm) (j:Nat):j6 ((i,v)::r) j=if j=i then v else j6 r j:=rfl
theorem AsL (j:Nat):j6 [] j = .any:=rfl
theorem AsI (i:Nat) (v:AV) (r:Tm) (l:a_):fp ((i,v)::r) l=if l.contains i then fp r l else (i,v)::fp r l:=rfl
theorem AsJ (l:a_):fp [] l=[]:=rfl
theorem ApQ (i:Nat) (v:AV) (r:d_):FK i (v::r)=(i,v)::FK (i+1) r:=rfl
end
end Go.j4

namespace Go.j4
section
variable {L:Lib} {k:List It} {tm:Tm} {own:BF} {st:St} {Q:St->Prop} {l:List AI} {b8:a_} {d:Nat} {dst:Option Nat}
section
variable {x y:BM} {kd:IntKind} {a b:Int}
end
def lM (fn:AFn) (r:AV) (st:St):Prop:=((fn.res.mapM (JL st)).map N1).bind (dN st.own false)=some r/\CI r
theorem Ev.fwd {f:Nat} {fn:AFn} {vs:d_} {r:AV} (hL:L f=some fn) (hp:vs.length=fn.gq) (h:AK L [.code fn.body] ⟨FK 0 vs,BF.emp⟩ (lM fn r)) (hs:fn.Ay=false:=by rfl):Ev L f vs r:=Ev.intro hL hp h hs
theorem J8.fwd {f:Nat} {fn:AFn} {vs:d_} {r:AV} (hL:L f=some fn) (hp:vs.length=fn.gq) (h:AK L [.code fn.body] ⟨FK 0 vs,BF.emp⟩ (lM fn r)):J8 L f vs r:=J8.intro hL hp h
end
attribute [irreducible] lM
end Go.j4

namespace Go.j4
def pw (n:Int):Int:=2^n.toNat
theorem Aro (n:Int):1<=pw n:=by
 have:0<pw n:=Int.pow_pos o_
 omega
theorem Asa {k2:IntKind} {a n:Int} (h:0<=n/\n<=63):G5 .shr .i64 a k2 n=some (.int .i64 (a/pw n)):=by
 have h2:=Aro n;have e:(2:Int)^(min n.toNat IntKind.i64.bits)=pw n:=by
  have:min n.toNat IntKind.i64.bits=n.toNat:=by simp only[IntKind.bits];omega
  rw[this];rfl
 simp only[G5];rw[if_neg D',e,Int.fdiv_eq_ediv_of_nonneg _ D']
theorem Ahe {a m:Int} (hm:0<m):a.tmod m=if 0<=a\/a%m=0 then a%m else a%m-m:=by
 have h:=Int.tmod_eq_emod (a:=a) (b:=m);rw[h];have hd:m ∣ a↔a%m=0:=Gf;by_cases h0:0<=a\/a%m=0
 ·rw[if_pos h0,if_pos (by rcases h0 with h0|h0;exact Or.inl h0;exact Or.inr (hd.2 h0))];omega
 ·rw[if_neg h0,if_neg (λ h=>h0 (h.imp id hd.1))]
  have:(m.natAbs:Int)=m:=D'
  omega
theorem Ahb {a m:Int} (hm:0<m):a.tdiv m=if 0<=a\/a%m=0 then a/m else a/m+1:=by
 have h:=Int.tdiv_eq_ediv (a:=a) (b:=m);rw[h];have hd:m ∣ a↔a%m=0:=Gf;by_cases h0:0<=a\/a%m=0
 ·rw[if_pos h0,if_pos (by rcases h0 with h0|h0;exact Or.inl h0;exact Or.inr (hd.2 h0))];omega
 ·rw[if_neg h0,if_neg (λ h=>h0 (h.imp id hd.1)),Int.sign_eq_one_of_pos hm]
theorem Am3 {a m:Int} (hm:1<=m) (h : -9223372036854775808<=a/\a<=9223372036854775807) : -9223372036854775808<=a/m/\a/m<=9223372036854775807:=by
 constructor
 ·rw[Int.le_ediv_iff_mul_le D']
  have:=Int.mul_le_mul_of_nonpos_left (a := -9223372036854775808) (b:=m) (c:=1) D' hm
  omega
 ·have:a/m<9223372036854775808:=by
   rw[Int.ediv_lt_iff_lt_mul D'];have:=Int.mul_le_mul_of_nonneg_left (c:=9223372036854775808) (a:=1) (b:=m) hm D'
   omega
  omega
section
variable {L:Lib} {k:List It} {tm:Tm} {own:BF} {Q:St->Prop} {l:List AI} {b8:a_} {d:Nat} {x y:BM} {a b n p:Int} {k2:IntKind}
end
end Go.j4

namespace Go.j4
theorem kY (ts:a_) (j:Nat) : ∀ tm:Tm,j6 (fp tm ts) j=if ts.contains j then .any else j6 tm j
 | []=>by simp [AsJ,AsL]
 | (i,u)::r=>by
  rw[AsI];by_cases h:ts.contains i=true
  ·rw[if_pos h,kY ts j r,pC]
   by_cases h2:j=i
   ·subst h2;rw[if_pos h,if_pos h]
   ·rw[if_neg h2]
  ·rw[if_neg h,pC,pC,kY ts j r]
   by_cases h2:j=i
   ·subst h2;rw[if_pos rfl,if_pos rfl,if_neg h]
   ·rw[if_neg h2,if_neg h2]
def RG (j:Nat):a_->Bool
 | []=>false
 | i::r=>bif Ub j i then true else RG j r
abbrev Anc (n:Int):d_:=[.int .i64 n]
section
variable {L:Lib} {k:List It} {tm:Tm} {own:BF} {Q:St->Prop} {l:List AI} {b8:a_} {d:Nat} {x i:BM} {kd:IntKind} {a:Int} {q:Bool} {α:Type} {es:List α} {enc:α->d_} {z:Nat}
end
end Go.j4

namespace Go.j4
inductive C4 where
 | bx (cs:d_)
 | rw (z:Nat) (es:c_)
 | bs (z:Nat) (es:c_)
 | mx (rows:List (b_))
 | hx (i:Nat) (v:AV) (rows:List (b_))
 | vw (w:a_) (rows:List (b_))
abbrev Mem:=List (Nat × Nat × C4)
def c7:Mem->Nat->Option (Nat × C4)
 | [],_=>none
 | (k,s,c)::r,j=>bif Ub j k then some (s,c) else c7 r j
def b7 (M:Mem) (k t:Nat):Option C4:=match c7 M k with
 | none=>none
 | some (_,c)=>match t with
  | 0=>some c
  | i+1=>match c with
   | .mx rows=>match rows[i]? with
    | some (some (z,es))=>some (.rw z es)
    | _=>none
   | .hx _ _ rows=>match rows[i]? with
    | some (some (z,es))=>some (.rw z es)
    | _=>none
   | .vw _ rows=>match rows[i]? with
    | some (some (z,es))=>some (.rw z es)
    | _=>none
   | _=>none
def v8 (j:Nat):Mem->Mem
 | []=>[]
 | (k,s,c)::r=>bif Ub j k then v8 j r else (k,s,c)::v8 j r
def tg:Tm->Nat->AV
 | [],_ => .any
 | (i,v)::r,j=>bif Ub j i then v else tg r j
def bit (m i:Nat):Bool:=Ub (Nat.land (Nat.shiftRight m i) 1) 1
def mask:Nat->a_->Nat
 | m,[]=>m
 | m,t::ts=>mask (ch m (ph 1 t)) ts
def Fk (m:Nat):Tm->Tm
 | []=>[]
 | (i,v)::r=>bif bit m i then Fk m r else (i,v)::Fk (ch m (ph 1 i)) r
def fN (n:Nat) (K:Nat->Prop):Prop:=match n with
 | 0=>K 0
 | k+1=>K (k+1)
def Df:AV->Bool
 | .int _ _=>true | .bool _=>true | .iz _=>true | .sl _ _=>true | .nil=>true
 | _=>false
def HR:d_->Bool
 | []=>true
 | v::r=>bif Df v then HR r else false
def mF:c_->Bool
 | []=>true
 | v::r=>bif HR v then mF r else false
def WD (s:Nat):AV->Bool
 | .row k _ _ _ _=>Ub k s | .ptr k _ _ _=>Ub k s
 | _=>false
def QA (s:Nat):d_->Bool
 | []=>false
 | v::r=>bif WD s v then true else QA s r
def dJ (s:Nat):c_->Bool
 | []=>false
 | v::r=>bif QA s v then true else dJ s r
def ZT (s:Nat):AV->Bool
 | .agg cs=>QA s cs
 | .fn _ _ _ cs=>QA s cs
 | v=>WD s v
def kO (s:Nat):d_->Bool
 | []=>false
 | v::r=>bif ZT s v then true else kO s r
def WE (s:Nat):AV->Bool
 | .e9 vs=>kO s vs
 | v=>ZT s v
def N5 (s:Nat):Tm->Bool
 | []=>false
 | (_,v)::r=>bif WE s v then true else N5 s r
def N4 (s:Nat):C4->Bool
 | .bx cs=>QA s cs
 | .rw _ _=>false
 | .bs _ es=>dJ s es
 | .mx _=>false
 | .hx _ _ _=>false
 | .vw _ _=>false
def LW (s:Nat):Mem->Bool
 | []=>false
 | (k,_,c)::r=>bif Ub s k then true else bif N4 s c then true else LW s r
def Y0 (s:Nat):AV->Bool
 | .row k t _ _ _=>bif Ub k s then (match t with|0=>false|_+1=>true) else false
 | .ptr k t _ _=>bif Ub k s then (match t with|0=>false|_+1=>true) else false
 | _=>false
def WX (s:Nat):d_->Bool
 | []=>false
 | v::r=>bif Y0 s v then true else WX s r
def eJ (s:Nat):AV->Bool
 | .agg cs=>WX s cs
 | .fn _ _ _ cs=>WX s cs
 | v=>Y0 s v
def jF (s:Nat):d_->Bool
 | []=>false
 | v::r=>bif eJ s v then true else jF s r
def aB (s:Nat):AV->Bool
 | .e9 vs=>jF s vs
 | v=>eJ s v
def RC (s:Nat):Tm->Bool
 | []=>false
 | (_,v)::r=>bif aB s v then true else RC s r
def jG (s:Nat):c_->Bool
 | []=>false
 | v::r=>bif WX s v then true else jG s r
def WU (s:Nat):C4->Bool
 | .bx cs=>WX s cs
 | .bs _ es=>jG s es
 | _=>false
def OH (s:Nat):Mem->Bool
 | []=>false
 | (_,_,c)::r=>bif WU s c then true else OH s r
def used (k:Nat) (tm:Tm) (M:Mem):Bool:=bif LW k M then true else N5 k tm
def tM (tm:Tm) (M:Mem):a_->(Nat->Prop)->Prop
 | [],_=>False
 | k::r,K=>bif used k tm M then tM tm M r K else K k
def LM (s:Nat) (tm:Tm) (M:Mem) (K:Nat->Prop):Prop:=tM tm M [s,s+1000000,s+2000000,s+3000000] K
def fL:d_->(d_->Prop)->Prop
 | [],K=>K []
 | v::r,K=>fL r λ r'=>K (v::r')
def fV (v:AV) (K:AV->Prop):Prop:=match v with
 | .int k n=>K (.int k n) | .bool b=>K (.bool b) | .sl l es=>K (.sl l es) | .row s t z o n=>K (.row s t z o n)
 | .nil=>K .nil | .ptr s t i j=>K (.ptr s t i j) | .af cs=>K (.af cs) | .agg cs=>fL cs λ cs=>K (.agg cs)
 | .fn p f g cs=>fL cs λ cs=>K (.fn p f g cs)
 | .e9 vs=>fL vs λ vs=>K (.e9 vs) | .iz c=>K (.iz c) | .any=>False
def fC (v:AV) (K:d_->Prop):Prop:=match v with
 | .agg cs=>fL cs K
 | .fn _ _ _ _=>False
 | .e9 _=>False
 | .any=>False
 | v=>fV v λ v=>K [v]
def fB (b:Bool) (K:Bool->Prop):Prop:=match b with
 | true=>K true
 | false=>K false
def fT:Tm->(Tm->Prop)->Prop
 | [],K=>K []
 | (i,v)::r,K=>fT r λ r'=>K ((i,v)::r')
def fM:Mem->(Mem->Prop)->Prop
 | [],K=>K []
 | (k,s,c)::r,K=>fM r λ r'=>K ((k,s,c)::r')
def fF (v:AV) (K:AV->Prop):Prop:=match v with
 | .int k n=>K (.int k n) | .bool b=>K (.bool b) | .sl l es=>K (.sl l es) | .row s t z o n=>K (.row s t z o n)
 | .nil=>K .nil | .ptr s t i j=>K (.ptr s t i j) | .iz c=>K (.iz c)|_=>False
def f2 (v:AV) (K:AV->Prop):Prop:=match v with
 | .int k n=>K (.int k n) | .bool b=>K (.bool b) | .sl l es=>K (.sl l es) | .row s t z o n=>K (.row s t z o n)
 | .nil=>K .nil | .ptr s t i j=>K (.ptr s t i j) | .iz c=>K (.iz c) | .agg cs=>fL cs λ cs=>K (.agg cs) | .fn p f g cs=>fL cs λ cs=>K (.fn p f g cs)|_=>False
def Av (agg:Bool) (ds:d_) (K:AV->Prop):Prop:=match agg with
 | true=>K (.agg ds)
 | false=>match ds with
  | [c]=>fF c K
  | _=>False
def A5 (p q A B:Prop):Prop:=(p->A)/\(q->B)
def BZ (p A:Prop):Prop:=p/\A
def A0 (op:BinOp) (k:IntKind) (a:Int) (k':IntKind) (b:Int) (K:AV->Prop):Prop := ∃ v,G5 op k a k' b=some v/\K v
def FH (op:UnOp) (k:IntKind) (n:Int) (K:AV->Prop):Prop := ∃ v,dR op (.int k n)=some v/\K v
structure CO (k:IntKind) (n:Int) (K:Int->Prop):Prop where h:K (k.wrap n)
def B2 (es:c_) (a:Int) (z:Nat) (K:d_->Prop):Prop:=0<=a /\ ∃ cs,es[a.toNat]? = some cs/\cs.length=z/\K cs
def C6 (es:c_) (i j n:Nat) (K:d_->Prop):Prop := ∃ cs ds,es[i]? = some cs/\part cs j n=some ds/\K ds
def C9 (es:c_) (i j:Nat) (vs:d_) (K:c_->Prop):Prop := ∃ cs,es[i]? = some cs/\j+vs.length<=cs.length/\K (es.set i (splice cs j vs))
def EO (a b:Int) (bytes:Nat) (zero:d_) (K:c_->Nat->Prop):Prop:=(0<=a/\a<=b/\b*bytes<=H8/\b<=9223372036854775807)/\K (Tf a.toNat zero) a.toNat
structure BT (es:c_) (K:Nat->Prop):Prop where h:K es.length
def EC (es:c_) (len:Nat) (ys:c_) (z bytes:Nat) (K:c_->Nat->Prop):Prop :=
 len<=es.length/\(∀ e∈ys,e.length=z)/\(len+ys.length)*bytes<=H8/\len+ys.length<=9223372036854775807/\K (es.take len++ys) (len+ys.length)
def E0 (ys:c_) (z bytes:Nat) (K:c_->Nat->Prop):Prop :=
 (∀ e∈ys,e.length=z)/\ys.length*bytes<=H8/\ys.length<=9223372036854775807/\K ys ys.length
def HH (es:c_) (off len:Nat) (ys:c_) (z:Nat) (K:c_->Nat->Prop):Prop :=
 off+len<=es.length/\(∀ e∈ys,e.length=z)/\K (es.take off++ys.take len++es.drop (off+min ys.length len)) (min ys.length len)
def D6 (es:c_) (off len:Nat) (K:c_->Prop):Prop:=off+len<=es.length/\K ((es.drop off).take len)
def JW:d_->Bool
 | []=>true
 | v::r=>match v with
  | .int _ _=>JW r | .bool _=>JW r | .iz _=>JW r | .sl _ _=>JW r
  | _=>false
def nl:AV->AV
 | .nil => .sl false []
 | v=>v
def WB:d_->Bool
 | []=>true
 | v::r=>match v with
  | .int _ _=>WB r | .bool _=>WB r | .iz _=>WB r | .sl _ _=>WB r | .nil=>WB r
  | _=>false
def CT (es:c_) (off len:Nat) (K:c_->Prop):Prop:=off+len<=es.length/\(∀ e∈es,WB e=true)/\K (((es.drop off).take len).map λ e=>e.map nl)
def EF (rows:List (b_)) (i:Nat) (K:b_->Prop):Prop := ∃ r,rows[i]? = some r/\K r
def DP (rows:List (b_)) (i:Nat) (K:Nat->c_->Prop):Prop := ∃ z es,rows[i]? = some (some (z,es))/\K z es
def FF (rows:List (b_)) (i z:Nat) (es:c_) (K:List (b_)->Prop):Prop:=i<rows.length/\K (rows.set i (some (z,es)))
def FR (rows:List (b_)) (i z:Nat) (es es':c_) (K:List (b_)->Prop):Prop:=es'.length=es.length/\K (rows.set i (some (z,es')))
def F5 (a b:Int) (bytes:Nat) (K:List (b_)->Nat->Prop):Prop:=(0<=a/\a<=b/\b*bytes<=H8/\b<=9223372036854775807)/\K (Tf a.toNat none) a.toNat
def F7 (rows:List (b_)) (len:Nat) (r:b_) (bytes:Nat) (K:List (b_)->Nat->Prop):Prop :=
 len=rows.length/\(len+1)*bytes<=H8/\len+1<=9223372036854775807/\K (rows++[r]) (len+1)
def dL (q:Bool):List (b_)->c_
 | []=>[]
 | none::r=>[.sl false []]::dL q r
 | some (_,es)::r=>[.sl q es]::dL q r
def E6 (q:Bool) (rows:List (b_)) (off len:Nat) (K:c_->Prop):Prop :=
 off=0/\len=rows.length/\(∀ z es,some (z,es)∈rows -> ∀ e∈es,JW e=true)/\K (dL q rows)
def EJ (lo hi:Option Int) (len:Nat) (K:Nat->Nat->Prop):Prop :=
 ∃ a h:Nat,(match lo with|none=>a=0|some x=>0<=x/\a=x.toNat)/\(match hi with|none=>h=len|some x=>0<=x/\x<=len/\h=x.toNat)/\a<=h/\K a h
def E3 (z:Nat) (es:c_) (lo hi:Option Int) (K:c_->Prop):Prop:=(∀ e∈es,e.length=z)/\EJ lo hi es.length λ a h=>K ((es.take h).drop a)
def AM (L:Lib) (f:Nat) (vs:d_) (K:AV->Prop):Prop := ∃ r,Ev L f vs r/\K r
def WM (n:Nat) (cs ds:d_) (K:Bool->Prop):Prop := ∃ a b,NN cs=some a/\NN ds=some b/\a.length=n/\b.length=n/\K (decide (a=b))
def sI:d_->Bool
 | []=>true
 | .int _ _::r=>sI r
 | _=>false
def GN (L:Lib) (f:Nat) (vs:d_) (K:Nat->c_->Nat->Prop):Prop := ∃ z es n,dU L f vs z es/\n=es.length/\K z es n
abbrev JF:=Nat->Nat->Nat × Nat
def C3 (σ:JF):AV->AV
 | .row k t z o n => .row (σ k t).1 (σ k t).2 z o n
 | .ptr k t i j => .ptr (σ k t).1 (σ k t).2 i j
 | v=>v
def DM (σ:JF):AV->AV
 | .agg cs => .agg (cs.map (C3 σ))
 | .fn p f g cs => .fn p f g (cs.map (C3 σ))
 | v=>C3 σ v
def DJ (σ:JF):AV->AV
 | .e9 vs => .e9 (vs.map (DM σ))
 | v=>DM σ v
def EN (σ:JF) (k:Nat):Nat->List (b_)->c_
 | _,[]=>[]
 | i,none::r=>[.nil]::EN σ k (i+1) r
 | i,some (z,es)::r=>[.row (σ k (i+1)).1 (σ k (i+1)).2 z 0 es.length]::EN σ k (i+1) r
def C4.g8 (σ:JF) (k:Nat):C4->HU
 | .bx cs=>⟨cs.length,[cs.map (C3 σ)]⟩
 | .rw z es=>⟨z,es⟩
 | .bs z es=>⟨z,es.map λ cs=>cs.map (C3 σ)⟩
 | .mx rows=>⟨1,EN σ k 0 rows⟩
 | .hx i v rows=>⟨1,(EN σ k 0 rows).set i [v]⟩
 | .vw w rows=>⟨1,w.map λ t=>((EN σ k 0 rows)[t]?).getD []⟩
def C4.ur:C4->Bool
 | .bx _=>false
 | _=>true
def IX (s:Nat):Bool:=Nat.blt s 900000
structure LO (σ:JF) (own:BF) (M:Mem):Prop where
 site : ∀ k s c,c7 M k=some (s,c)->(σ k 0).1=s
 g8 : ∀ k t c,b7 M k t=some c->(own (σ k t).1).g8 (σ k t).2=some (c.g8 σ k)
 old : ∀ k t c,b7 M k t=some c->(σ k t).2<(own (σ k t).1).j8
 inj : ∀ k t k' t' c c',b7 M k t=some c->b7 M k' t'=some c'->σ k t=σ k' t'->k=k'/\t=t'
 low : ∀ k t c,b7 M k t=some c->c.ur=true->IX (σ k t).1=true
structure RX (σ:JF) (tm:Tm) (M:Mem) (st:St):Prop where
 tm : ∀ j,tg tm j = .any\/j6 st.tm j=DJ σ (tg tm j)
 sat:LO σ st.own M
def SQ (Q:Tm->Mem->Prop) (st:St):Prop := ∃ σ tm M,RX σ tm M st/\Q tm M
def AJ (L:Lib) (k:List It) (tm:Tm) (M:Mem) (Q:Tm->Mem->Prop):Prop := ∀ σ st,RX σ tm M st->AK L k st (SQ Q)
def AOM (L:Lib) (l:List AI) (k:List It) (tm:Tm) (M:Mem) (Q:Tm->Mem->Prop):Prop := ∀ σ st,RX σ tm M st->AO L l k st (SQ Q)
def CZ (L:Lib) (f:Nat) (vs:d_) (tm:Tm) (M:Mem) (K:AV->Mem->Prop):Prop :=
 ∀ σ own,LO σ own M -> ∃ r m8 σ' M',LL L f (vs.map (DJ σ)) own (DJ σ' r) m8/\LO σ' m8 M'/\(∀ j,DJ σ' (tg tm j)=DJ σ (tg tm j))/\K r M'
def kG (s:Nat):Mem->Bool
 | []=>true
 | (_,s',_)::r=>bif Ub s' s then false else kG s r
def FrS (L:Lib) (s f:Nat):Prop :=
 ∀ n vs (o0 o2:BF) r o',(∀ t,o0.get s t=none)->(∀ q,q≠s->o2 q=o0 q)->GR L n f vs o0=some (r,o')->GR L n f vs o2=some (r,o'.put s (o2 s))
def AiK (L:Lib) (s f:Nat) (vs:d_) (tm:Tm) (M:Mem) (K:AV->Mem->Prop):Prop :=
 FrS L s f/\(IX s=false/\kG s M=true)/\CZ L f vs tm M λ r M'=>kG s M'=true/\K r M'
def AiL (L:Lib) (s f key:Nat) (rest:d_) (M:Mem) (K:AV->Mem->Prop):Prop :=
 ∃ (cells nk:d_) (kd:IntKind) (n:Int),c7 M key=some (s,.bx cells)/\HR cells=true/\HR nk=true/\(∀ (t:Nat) (q:EV),q.g8 t=some ⟨cells.length,[cells]⟩->EvS L s f (.ptr s t 0 0::rest) q (.int kd n) (q.v9 t (some ⟨nk.length,[nk]⟩)))/\K (.int kd n) ((key,s,.bx nk)::M)
def cv:AV->AV
 | .agg cs=>bif HR cs then .agg cs else .any
 | .e9 [] => .e9 []
 | .af _ => .any
 | .fn p f g [] => .fn p f g []
 | v=>bif Df v then v else .any
def ex (tm:Tm):BM->AV
 | .t n=>tg tm n
 | .c v=>cv v
def kq (k k':IntKind):Bool:=decide (k=k')
def vZ (op:BinOp) (k:IntKind) (a:Int) (k':IntKind) (b:Int) (K:AV->Prop):Prop:=match op with
 | .lss=>bif kq k k' then A5 (a<b) (b<=a) (K (.bool true)) (K (.bool false)) else False
 | .leq=>bif kq k k' then A5 (a<=b) (b<a) (K (.bool true)) (K (.bool false)) else False
 | .gtr=>bif kq k k' then A5 (b<a) (a<=b) (K (.bool true)) (K (.bool false)) else False
 | .geq=>bif kq k k' then A5 (b<=a) (a<b) (K (.bool true)) (K (.bool false)) else False
 | .eql=>bif kq k k' then A5 (a=b) (a≠b) (K (.bool true)) (K (.bool false)) else False
 | .neq=>bif kq k k' then A5 (a≠b) (a=b) (K (.bool true)) (K (.bool false)) else False
 | op=>A0 op k a k' b K
noncomputable def gE (mx:Bool) (k:IntKind) (K:AV->Prop) (a:Int) (l:d_):Prop :=
 List.rec (motive:=λ_=>Int->Prop) (λ a=>K (.int k a)) (λ v _ ih a=>match v with
  | .int _ b=>bif mx then A5 (a<b) (b<=a) (ih b) (ih a) else A5 (b<a) (a<=b) (ih b) (ih a)
  | _=>False) l a
def Is:d_->Nat->AV
 | [],_ => .any
 | v::_,0=>v
 | _::r,n+1=>Is r n
def bR (s:Nat):a_->Bool
 | []=>true
 | b8 => !(RG s b8)
def gF:a_->Bool
 | []=>true
 | s::r=>bif IX s then false else gF r
def rwX (M:Mem) (k t:Nat) (K:Nat->c_->Prop):Prop:=match c7 M k with
 | some (_,c)=>match t with
  | 0=>match c with
   | .rw z es=>K z es
   | _=>False
  | i+1=>match c with
   | .mx rows=>DP rows i K
   | _=>False
 | none=>False
def rR (M:Mem) (v:AV) (K:c_->Prop):Prop:=match v with
 | .sl _ es=>K es
 | .nil=>K []
 | .iz (.bool _)=>K []
 | .row key t z off len=>rwX M key t λ z' es=>bif Ub z z' then D6 es off len K else False
 | _=>False
def hJ (q:Bool) (M:Mem) (b8:a_) (v:AV) (K:AV->Prop):Prop:=match v with
 | .int k n=>K (.int k n)
 | .bool b=>K (.bool b)
 | .sl l es=>K (.sl l es)
 | .iz c=>K (.iz c)
 | .nil=>K (.sl false [])
 | .row key t z off len=>match c7 M key with
  | some (s,.rw z' es)=>match t with
   | 0=>bif Ub z z' then bif bR s b8 then CT es off len λ es=>K (.sl q es) else False else False
   | _+1=>False
  | some (_,.mx rows)=>match t with
   | 0=>False
   | i+1=>match b8 with
    | []=>DP rows i λ z' es=>bif Ub z z' then CT es off len λ es=>K (.sl q es) else False
    | b::r=>bif gF (b::r) then DP rows i λ z' es=>bif Ub z z' then CT es off len λ es=>K (.sl q es) else False else False
  | _=>False
 | _=>False
noncomputable def uJ (q:Bool) (M:Mem) (b8:a_) (l:d_):(d_->Prop)->Prop :=
 List.rec (motive:=λ_=>(d_->Prop)->Prop) (λ K=>K []) (λ v _ ih K=>hJ q M b8 v λ v'=>ih λ r'=>K (v'::r')) l
noncomputable def Abj (q:Bool) (M:Mem) (b8:a_) (l:c_):(c_->Prop)->Prop :=
 List.rec (motive:=λ_=>(c_->Prop)->Prop) (λ K=>K []) (λ v _ ih K=>uJ q M b8 v λ v'=>ih λ r'=>K (v'::r')) l
noncomputable def oR (q:Bool) (M:Mem) (b8:a_) (v:AV) (K:AV->Prop):Prop:=match v with
 | .row key 0 z off len=>match c7 M key with
  | some (s,.bs z' es)=>bif Ub z z' then bif bR s b8 then bif Ub off 0 then BZ (len=es.length) (Abj q M b8 es λ es=>K (.sl q es)) else False else False else False
  | some (_,.mx rows)=>match b8 with
   | []=>bif Ub z 1 then E6 q rows off len λ es=>K (.sl q es) else False
   | _::_=>False
  | _=>hJ q M b8 (.row key 0 z off len) K
 | v=>hJ q M b8 v K
noncomputable def snL (q:Bool) (M:Mem) (b8:a_) (l:d_):(d_->Prop)->Prop :=
 List.rec (motive:=λ_=>(d_->Prop)->Prop) (λ K=>K []) (λ v _ ih K=>oR q M b8 v λ v'=>ih λ r'=>K (v'::r')) l
noncomputable def ZZ (q:Bool) (M:Mem) (b8:a_) (v:AV) (K:AV->Prop):Prop:=match v with
 | .agg cs=>snL q M b8 cs λ cs=>K (.agg cs)
 | v=>oR q M b8 v K
noncomputable def oS (tm:Tm) (M:Mem) (b8:a_) (l:List BM):(d_->Prop)->Prop :=
 List.rec (motive:=λ_=>(d_->Prop)->Prop) (λ K=>K []) (λ x _ ih K=>ZZ true M b8 (ex tm x) λ v=>ih λ vs=>K (v::vs)) l
noncomputable def uK (M:Mem) (b8:a_) (v:AV) (K:AV->Prop):Prop:=match v with
 | .nil=>K .nil
 | v=>ZZ true M b8 v K
noncomputable def Abl (tm:Tm) (M:Mem) (b8:a_) (l:List BM):(d_->Prop)->Prop :=
 List.rec (motive:=λ_=>(d_->Prop)->Prop) (λ K=>K []) (λ x _ ih K=>uK M b8 (ex tm x) λ v=>ih λ vs=>K (v::vs)) l
noncomputable def fO (tm:Tm) (l:List BM):(d_->Prop)->Prop :=
 List.rec (motive:=λ_=>(d_->Prop)->Prop) (λ K=>K []) (λ x _ ih K=>fV (ex tm x) λ v=>ih λ vs=>K (v::vs)) l
def sY (tm:Tm) (o:Option BM) (K:Option Int->Prop):Prop:=match o with
 | none=>K none
 | some x=>match ex tm x with
  | .int _ n=>K (some n)
  | _=>False
def lnX (es:c_) (K:Nat->Prop):Prop:=match es with
 | []=>K 0
 | [_]=>K 1
 | [_,_]=>K 2
 | [_,_,_]=>K 3
 | [_,_,_,_]=>K 4
 | es=>K es.length
noncomputable def wC (tm:Tm) (z:Nat) (l:List BM):(c_->Prop)->Prop :=
 List.rec (motive:=λ_=>(c_->Prop)->Prop) (λ K=>K []) (λ x _ ih K=>fC (ex tm x) λ cs=>bif Ub cs.length z then ih λ es=>K (cs::es) else False) l
noncomputable def zG (tm:Tm) (ps:List (Nat × Nat × BM)):d_->(d_->Prop)->Prop :=
 List.rec (motive:=λ_=>d_->(d_->Prop)->Prop) (λ cells K=>K cells) (λ p _ ih cells K=>fC (ex tm p.2.2) λ vs=>bif Ub vs.length p.2.1 then bif nh (p.1+p.2.1) cells.length then fL (splice cells p.1 vs) λ cells=>ih cells K else False else False) ps
def aR (tm:Tm):List BM->d_
 | []=>[]
 | x::r=>ex tm x::aR tm r
def eE (tb:a_) (n:Int) (K:Nat->Prop):Prop:=0<=n /\ ∃ v,tb[n.toNat]? = some v/\K v
noncomputable def oaX (tm:Tm) (l:List BM):(d_->Prop)->Prop :=
 List.rec (motive:=λ_=>(d_->Prop)->Prop) (λ K=>K []) (λ x _ ih K=>fF (ex tm x) λ v=>ih λ cs=>K (v::cs)) l
def Xw:AV->Bool
 | .agg _=>false | .fn _ _ _ _=>false | .e9 _=>false | .any=>false
 | _=>true
def nM:d_->Bool
 | []=>true
 | v::r=>bif Xw v then nM r else false
def eG (M:Mem) (v:AV):Option (Nat × Option (Nat × Nat × Nat)):=match v with
 | .row ky 0 1 0 1=>match c7 M ky with
  | some (_,.bs 1 [[.row k2 0 z 0 n]])=>some (ky,some (k2,z,n))
  | some (_,.rw 1 [[.nil]])=>some (ky,none)
  | _=>none
 | _=>none
def stX (tm:Tm) (M:Mem) (K:AV->Mem->Prop) (n:Nat) (x v:BM):Prop:=match ex tm x with
 | .ptr key t i j=>fC (ex tm v) λ vs=>bif Ub vs.length n then (match c7 M key with
  | some (s,c)=>match t with
   | 0=>match c with
    | .bx cs=>bif Ub i 0 then bif nh (j+vs.length) cs.length then fL (splice cs j vs) λ lf=>K (.e9 []) ((key,s,.bx lf)::M) else False else False
    | .rw z es=>bif HR vs then C9 es i j vs λ es'=>K (.e9 []) ((key,s,.rw z es')::M) else False
    | .bs _ _=>False
    | .mx rows=>match vs with
     | [.row dz 0 z 0 m]=>bif Ub key dz then False else bif RC key tm then False else bif OH key M then False else bif Ub j 0 then (match c7 M dz with
      | some (_,.rw z' es)=>bif Ub z z' then fM (v8 dz M) λ M'=>BZ (m=es.length) (FF rows i z es λ y8=>K (.e9 []) ((key,s,.mx y8)::M')) else False
      | _=>False) else False
     | [.row dz (t2+1) z 0 m]=>bif Ub key dz then bif Ub j 0 then DP rows t2 λ z' es=>bif Ub z z' then BZ (m=es.length/\i<rows.length) (K (.e9 []) ((key,s,.vw ((Ge rows.length).set i t2) rows)::M)) else False else False else False
     | _=>False
    | .hx i0 _ rows=>match vs with
     | [.row dz 0 z 0 m]=>bif Ub key dz then False else bif RC key tm then False else bif OH key M then False else bif Ub j 0 then (match c7 M dz with
      | some (_,.rw z' es)=>bif Ub z z' then fM (v8 dz M) λ M'=>BZ (i=i0/\m=es.length) (FF rows i z es λ y8=>K (.e9 []) ((key,s,.mx y8)::M')) else False
      | _=>False) else False
     | _=>False
    | .vw w rows=>match vs with
     | [.row dz (t2+1) z 0 m]=>bif Ub key dz then bif Ub j 0 then DP rows t2 λ z' es=>bif Ub z z' then BZ (m=es.length/\i<w.length /\ ∀ t∈w,t<rows.length) (K (.e9 []) ((key,s,.vw (w.set i t2) rows)::M)) else False else False else False
     | _=>False
   | i'+1=>match c with
    | .mx rows=>bif HR vs then DP rows i' λ z es=>C9 es i j vs λ es'=>FR rows i' z es es' λ y8=>K (.e9 []) ((key,s,.mx y8)::M) else False
    | _=>False
  | none=>False) else False
 | _=>False
def DQ (r:AV) (K:AV->Prop):Prop:=(Q9 r\/dT r)/\K (V7 r)
noncomputable def XE (L:Lib) (tm:Tm) (M:Mem) (b8:a_) (K:AV->Mem->Prop):HO->Prop
 | .w9 x=>fV (ex tm x) λ v=>K v M
 | .bu s z=>bif IX s then LM s tm M λ k=>K (.row k 0 z 0 0) ((k,s,.rw z [])::M) else False
 | .pick c a b=>match ex tm c with
  | .bool true=>fV (ex tm a) λ v=>K v M
  | .bool false=>fV (ex tm b) λ v=>K v M
  | _=>False
 | .bin op x y=>match ex tm x,ex tm y with
  | .int k a,.int k' b=>vZ op k a k' b λ v=>K v M
  | _,_=>False
 | .Bu ne n x y=>match ex tm x,ex tm y with
  | .agg cs,.agg ds=>WM n cs ds λ b=>fB (bif ne then !b else b) λ c=>K (.bool c) M
  | _,_=>False
 | .beq ne x y=>match ex tm x,ex tm y with
  | .bool a,.bool b=>fB (bif ne then !(a == b) else a == b) λ c=>K (.bool c) M
  | _,_=>False
 | .un op x=>match ex tm x with
  | .int k n=>FH op k n λ v=>K v M
  | .bool b=>match op with
   | .not=>fB (!b) λ c=>K (.bool c) M
   | _=>False
  | _=>False
 | .conv k x=>match ex tm x with
  | .int _ n=>CO k n λ v=>K (.int k v) M
  | _=>False
 | .box s x=>fC (ex tm x) λ cs=>LM s tm M λ k=>K (.ptr k 0 0 0) ((k,s,.bx cs)::M)
 | .alloc s zero=>bif HR zero then (LM s tm M λ k=>K (.ptr k 0 0 0) ((k,s,.bx zero)::M)) else False
 | .build zero parts=>bif HR zero then zG tm parts zero λ cs=>K (.agg cs) M else False
 | .c8 s z parts=>bif IX s then wC tm z parts λ es=>lnX es λ n=>LM s tm M λ k=>bif mF es then K (.row k 0 z 0 n) ((k,s,.rw z es)::M) else K (.row k 0 z 0 n) ((k,s,.bs z es)::M) else False
 | .dj x off=>match ex tm x with
  | .ptr key t i j=>K (.ptr key t i (j+off)) M
  | .af cs=>fL (cs.drop off) λ cs=>K (.af cs) M
  | _=>False
 | .zf x off n agg=>match ex tm x with
  | .agg cs=>match part cs off n with
   | some ds=>fL ds λ ds=>Av agg ds λ v=>K v M
   | none=>False
  | _=>False
 | .cp arr z x i=>match ex tm i with
  | .int _ n=>match arr,ex tm x with
   | some len,.ptr key t i' j=>BZ (0<=n/\n<(len:Int)) (K (.ptr key t i' (j+n.toNat*z)) M)
   | some len,.af cs=>BZ (0<=n/\n<(len:Int)) (fL (cs.drop (n.toNat*z)) λ cs=>K (.af cs) M)
   | none,.row key t z' off len=>bif Ub z' z then BZ (0<=n/\n<(len:Int)) (K (.ptr key t (off+n.toNat) 0) M) else False
   | none,.sl _ es=>B2 es n z λ cs=>K (.af cs) M
   | _,_=>False
  | _=>False
 | .ld agg n x=>match ex tm x with
  | .ptr key t i j=>match c7 M key with
   | some (s,c)=>match t with
    | 0=>bif bR s b8 then (match c with
     | .bx cs=>bif Ub i 0 then (match part cs j n with
      | some ds=>fL ds λ ds=>Av agg ds λ v=>K v M
      | none=>False) else False
     | .rw _ es=>C6 es i j n λ ds=>fL ds λ ds=>bif HR ds then Av agg ds λ v=>K v M else False
     | .bs _ es=>(match es[i]? with
      | some cs=>(match part cs j n with
       | some ds=>fL ds λ ds=>Av agg ds λ v=>K v M
       | none=>False)
      | none=>False)
     | .mx rows=>bif Ub j 0 then bif Ub n 1 then EF rows i λ r=>match r with
      | some (z,es)=>Av agg [.row key (i+1) z 0 es.length] λ v=>K v M
      | none=>Av agg [.nil] λ v=>K v M else False else False
     | .hx _ _ _=>False
     | .vw _ _=>False) else False
    | i'+1=>match c,b8 with
     | .mx rows,[]=>DP rows i' λ_ es=>C6 es i j n λ ds=>fL ds λ ds=>bif HR ds then Av agg ds λ v=>K v M else False
     | .mx rows,b::r=>bif gF (b::r) then DP rows i' λ_ es=>C6 es i j n λ ds=>fL ds λ ds=>bif HR ds then Av agg ds λ v=>K v M else False else False
     | _,_=>False
   | none=>False
  | .af cs=>match part cs 0 n with
   | some ds=>fL ds λ ds=>bif HR ds then Av agg ds λ v=>K v M else False
   | none=>False
  | _=>False
 | .Cz agg n x=>match ex tm x with
  | .af cs=>match part cs 0 n with
   | some ds=>fL ds λ ds=>bif HR ds then Av agg ds λ v=>K v M else False
   | none=>False
  | _=>False
 | .st n x v=>stX tm M K n x v
 | .ym s n x v=>match ex tm x with
  | .ptr key 0 _ _=>(match c7 M key with
   | some (s',_)=>bif Ub s' s then stX tm M K n x v else False
   | none=>False)
  | _=>False
 | .l7 f xs=>fO tm xs λ vs=>bif vs.all dq then AM L f (vs.map Gv) λ r=>DQ r λ r=>K r M else False
 | .mk s z bytes zero l c=>match ex tm l,ex tm c with
  | .int _ a,.int _ b=>bif Ub zero.length z then bif HR zero then match zero with
   | [.nil]=>bif IX s then F5 a b bytes λ rows n=>LM s tm M λ k=>K (.row k 0 z 0 n) ((k,s,.mx rows)::M) else False
   | zero=>bif IX s then (EO a b bytes zero λ es n=>LM s tm M λ k=>K (.row k 0 z 0 n) ((k,s,.rw z es)::M)) else False else False else False
  | _,_=>False
 | .pn z x lo hi=>sY tm lo λ lo=>sY tm hi λ hi=>match ex tm x with
  | .sl l es=>E3 z es lo hi λ es=>K (.sl l es) M
  | .row key t z' off len=>bif Ub z' z then EJ lo hi len λ a h=>K (.row key t z (off+a) (h-a)) M else False
  | .nil=>(match lo,hi with
   | none,none=>K .nil M
   | some a,none=>BZ (a=0) (K .nil M)
   | none,some h=>BZ (h=0) (K .nil M)
   | some a,some h=>BZ (a=0/\h=0) (K .nil M))
  | _=>False
 | .ext x i=>match ex tm x with
  | .e9 vs=>f2 (Is vs i) λ v=>K v M
  | _=>False
 | .len x=>match ex tm x with
  | .sl _ es=>BT es λ n=>K (.int .i64 (n:Int)) M
  | .nil=>K (.int .i64 0) M
  | .row _ _ _ _ n=>K (.int .i64 (n:Int)) M
  | _=>False
 | .mm mx xs=>match aR tm xs with
  | .int k a::r=>gE mx k (λ v=>K v M) a r
  | _=>False
 | .app s z bytes x y=>bif nh 800000 s then False else (
  match eG M (ex tm y) with
  | some (ky,some (k2,z2,n2))=>match ex tm x with
   | .row key 0 z' off len=>bif Ub off 0 then bif Ub z' 1 then bif Ub z 1 then bif Ub key k2 then False else bif Ub key ky then False else bif Ub k2 ky then False else (match c7 M k2 with
    | some (_,.rw z3 es)=>bif Ub z2 z3 then (match c7 M key with
     | some (s',.mx rows)=>fM (v8 key (v8 k2 (v8 ky M))) λ M'=>BZ (n2=es.length) (F7 rows len (some (z2,es)) bytes λ y8 n=>LM s tm M λ k=>K (.row k 0 z 0 n) ((k,s',.mx y8)::M'))
     | _=>False) else False
    | _=>False) else False else False else False
   | .nil=>bif IX s then bif Ub z 1 then (match c7 M k2 with
    | some (_,.rw z3 es)=>bif Ub z2 z3 then fM (v8 k2 M) λ M'=>BZ (n2=es.length/\bytes<=140737488355328) (LM s tm M λ k=>K (.row k 0 z 0 1) ((k,s,.mx [some (z2,es)])::M')) else False
    | _=>False) else False else False
   | _=>False
  | some (ky,none)=>match ex tm x with
   | .row key 0 z' off len=>bif Ub off 0 then bif Ub z' 1 then bif Ub z 1 then bif Ub key ky then False else (match c7 M key with
     | some (s',.mx rows)=>fM (v8 key M) λ M'=>F7 rows len none bytes λ y8 n=>LM s tm M λ k=>K (.row k 0 z 0 n) ((k,s',.mx y8)::M')
     | _=>False) else False else False else False
   | .nil=>bif IX s then bif Ub z 1 then BZ (bytes<=140737488355328) (LM s tm M λ k=>K (.row k 0 z 0 1) ((k,s,.mx [none])::M)) else False else False
   | _=>False
  | none=>rR M (ex tm y) λ ys=>match ex tm x with
   | .row key 0 z' off len=>bif Ub off 0 then bif Ub z' z then (match c7 M key with
    | some (s',.rw po es)=>bif Ub po z then fM (v8 key M) λ M'=>(EC es len ys z bytes λ es' n=>LM s tm M λ k=>K (.row k 0 z 0 n) ((k,s',.rw z es')::M')) else False
    | _=>False) else False else False
   | .row key (i+1) z' off len=>bif Ub off 0 then bif Ub z' z then (match c7 M key with
    | some (sk,.mx rows)=>fM (v8 key M) λ M'=>DP rows i λ po es=>bif Ub po z then (EC es len ys z bytes λ es' n => ∀ s' v,LM s tm M λ k=>K (.row k 0 z 0 n) ((k,s',.rw z es')::(key,sk,.hx i v (rows.set i none))::M')) else False
    | _=>False) else False else False
   | .nil=>bif IX s then E0 ys z bytes λ es n=>LM s tm M λ k=>K (.row k 0 z 0 n) ((k,s,.rw z es)::M) else False
   | _=>False)
 | .call f xs=>oS tm M b8 xs λ vs=>AM L f vs λ r=>K r M
 | .j5 f xs=>match b8 with
  | [s]=>fO tm xs λ vs=>AiK L s f vs tm M K
  | _=>fO tm xs λ vs=>CZ L f vs tm M K
 | .bf s f xs=>bif IX s then Abl tm M b8 xs λ vs=>GN L f vs λ z es n=>LM s tm M λ k=>K (.row k 0 z 0 n) ((k,s,.rw z es)::M) else False
 | .Cg ne x=>match ex tm x with
  | .nil=>fB (xor true ne) λ c=>K (.bool c) M
  | .iz (.bool b)=>fB (xor b ne) λ c=>K (.bool c) M
  | .sl _ es=>BZ (es≠[]) (fB (xor false ne) λ c=>K (.bool c) M)
  | .row _ _ _ _ n=>BZ (0<n) (fB (xor false ne) λ c=>K (.bool c) M)
  | _=>False
 | .bad=>False
 | .mj x=>match ex tm x with
  | .nil=>K (.int .i64 0) M
  | _=>False
 | .yx s z bytes x y=>match ex tm x,ex tm y with
  | .nil,.int _ n=>bif IX s then BZ (0<n/\n*bytes<=H8/\n<=9223372036854775807) (LM s tm M λ k=>K (.row k 0 z 0 n.toNat) ((k,s,.rw z [])::M)) else False
  | _,_=>False
 | .iy s f xs=>fO tm xs λ vs=>match vs with
  | .ptr key 0 0 0::rest=>bif sI rest then AiL L s f key rest M K else False
  | _=>False
 | .oz tb x=>match ex tm x with
  | .int _ n=>eE tb n λ v=>K (.int .u8 v) M
  | _=>False
 | .Au p f xs=>oaX tm xs λ cs=>K (.fn (p&&cs.isEmpty) f (L.num f) cs) M
 | .Bo f x=>match ex tm x with
  | .agg (c::cs)=>K (.fn true f (L.num f) (c::cs)) M
  | _=>False
 | .q6 x xs=>match ex tm x with
  | .fn true f g []=>BZ (g=L.num f) (oS tm M [] xs λ vs=>AM L f vs λ r=>K r M)
  | .fn true f g (c::cs)=>BZ (g=L.num f) (ZZ true M [] (.agg (c::cs)) λ v=>oS tm M [] xs λ vs=>AM L f (v::vs) λ r=>K r M)
  | .fn false f g cs=>bif nM cs then BZ (g=L.num f) (fO tm xs λ vs=>fL (vs++cs) λ vs=>CZ L f vs tm M K) else False
  | _=>False
def Qx (key:Nat):Tm->Tm
 | []=>[]
 | (j,v)::r=>bif aB key v then (j,.any)::Qx key r else (j,v)::Qx key r
def xk (v:AV) (tm:Tm) (K:Tm->Prop):Prop:=match v with
 | .row key (_+1) _ _ _=>fT (Qx key tm) K
 | _=>K tm
noncomputable def XI (L:Lib) (o:AI) (ih:(Tm->Mem->Prop)->Tm->Mem->Prop) (K:Tm->Mem->Prop) (tm:Tm) (M:Mem):Prop:=match o with
 | ⟨some d,.app s z b x y,none,b8⟩=>XE L tm M b8 (λ v M=>xk (ex tm x) tm λ tm=>ih K ((d,v)::tm) M) (.app s z b x y)
 | ⟨some d,op,none,b8⟩=>XE L tm M b8 (λ v M=>ih K ((d,v)::tm) M) op
 | ⟨none,op,none,b8⟩=>XE L tm M b8 (λ_ M=>ih K tm M) op
 | ⟨dst,op,some (g,w),b8⟩=>match tg tm g with
  | .bool b=>fB (b == w) λ c=>match c,dst with
   | true,some d=>XE L tm M b8 (λ v M=>ih K ((d,v)::tm) M) op
   | true,none=>XE L tm M b8 (λ_ M=>ih K tm M) op
   | false,some d=>ih K ((d,.e9 [])::tm) M
   | false,none=>ih K tm M
  | .e9 []=>match dst with
   | some d=>ih K ((d,.e9 [])::tm) M
   | none=>ih K tm M
  | _=>False
noncomputable def XO (L:Lib) (l:List AI):(Tm->Mem->Prop)->Tm->Mem->Prop :=
 List.rec (motive:=λ_=>(Tm->Mem->Prop)->Tm->Mem->Prop) (λ K tm M=>K tm M) (λ o _ ih K tm M=>XI L o ih K tm M) l
noncomputable def XS (L:Lib) (Q:Tm->Mem->Prop) (ih:List It->Tm->Mem->Prop) (k:List It) (tm:Tm) (M:Mem):Prop:=match k with
 | []=>Q tm M
 | it::k=>match it with
  | .g8 _=>ih k tm M
  | .tu ts ss=>fN (mask 0 ts) λ m=>fT (Fk m tm) λ tm=>match ss with
   | []=>ih k tm M
   | _::_=>False
  | .lp c=>AJ L (.lp c::k) tm M Q
  | .code c=>match c with
   | .skip=>ih k tm M
   | .ops l _=>XO L l (λ tm M=>ih k tm M) tm M
   | .dr c ts ss=>ih (.code c :: .tu ts ss::k) tm M
   | .scope c=>ih (.code c::k) tm M
   | .seq a b=>ih (.code a :: .code b::k) tm M
   | .cond x a b=>match ex tm x with
    | .bool b'=>fB b' λ c=>match c with
     | true=>ih (.code a::k) tm M
     | false=>ih (.code b::k) tm M
    | _=>False
   | .block id c=>ih (.code c :: .g8 id::k) tm M
   | .loop c=>AJ L (.lp c::k) tm M Q
   | .exit id=>match HN id k with
    | some k'=>ih k' tm M
    | none=>False
   | .ret=>Q tm M
noncomputable def XK (L:Lib) (Q:Tm->Mem->Prop) (n:Nat):List It->Tm->Mem->Prop :=
 Nat.rec (motive:=λ_=>List It->Tm->Mem->Prop) (λ k tm M=>AJ L k tm M Q) (λ_ ih k tm M=>XS L Q ih k tm M) n
def oL (tm:Tm) (M:Mem) (r:Q7) (K:AV->Prop):Prop:=match r with
 | .tmp t=>f2 (tg tm t) K
 | .cell t agg n=>match tg tm t with
  | .ptr key 0 i j=>match c7 M key with
   | some (_,.bx cs)=>bif Ub i 0 then (match part cs j n with
    | some ds=>fL ds λ ds=>Av agg ds K
    | none=>False) else False
   | _=>False
  | _=>False
noncomputable def tU (tm:Tm) (M:Mem) (l:List Q7):(d_->Prop)->Prop :=
 List.rec (motive:=λ_=>(d_->Prop)->Prop) (λ K=>K []) (λ x _ ih K=>oL tm M x λ v=>ih λ vs=>K (v::vs)) l
noncomputable def Abi (q:Bool) (M:Mem) (l:d_):(d_->Prop)->Prop :=
 List.rec (motive:=λ_=>(d_->Prop)->Prop) (λ K=>K []) (λ x _ ih K=>ZZ q M [] x λ v=>ih λ vs=>K (v::vs)) l
def rsv (vs:d_) (K:AV->Prop):Prop:=match vs with
 | [v]=>K v
 | vs=>K (.e9 vs)
def BH (a r:AV):Prop:=a=r/\CI r
noncomputable def aA (fn:AFn) (r:AV) (tm:Tm) (M:Mem):Prop:=tU tm M fn.res λ vs=>Abi false M vs λ vs=>rsv vs λ v=>BH v r
end Go.j4
