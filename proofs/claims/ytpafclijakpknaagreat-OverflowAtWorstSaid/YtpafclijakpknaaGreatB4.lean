/-
  Slice expressions, append, copy.
-/
import Derived.Test.YtpafclijakpknaaGreatB3
import Derived.Laws.Slices
import Derived.Orders
set_option linter.unusedSimpArgs false
set_option linter.unusedVariables false
set_option linter.unnecessarySimpa false
namespace Go.b8
open Go.RowKit
section
variable {B:Nat} {S:Nat->Prop} {w0:World} {m:M}
variable {P:Program} {num:Nat->Nat} {o:Oper} {a:Act} {ρ:BL->AV}
def MQ (ρ:BL->AV) (d:Nat):Option BL->Option Int
 | none=>some d
 | some y=>match ρ y with | .int _ n=>some n|_=>none
theorem qT (ty e:TypeId) (inf:TypeInfo) (hu:P.underlying ty=some (.slice e)) (hi:P.info? e=some inf) (hs:FX B S m ρ a.eval) {lo u5:Option Operand} {ta Lj:Option BL} (nz:XB lo ta=true) (Ov:XB u5 Lj=true)
  (ad:Option Addr) (len cap:Nat) (l h:Int) (hl:MQ ρ 0 ta=some l) (hh:MQ ρ len Lj=some h) (h0:0<=l) (hlh:l<=h) (Ow:h<=len) (ke:len<=cap) (w:World) :
  (Instr.sliceAt ty (.slice ad len cap) (lo.map a.eval) (u5.map a.eval) none).run P w = .ok (.slice (if cap=l.toNat then ad else ad.map (·.add (l.toNat*inf.size))) (h.toNat-l.toNat) (cap-l.toNat)) w:=by
 have Ax : ∀ {x:Option Operand} {y:Option BL} {d:Nat} {n:Int},XB x y=true->MQ ρ d y=some n->(x=none/\y=none/\n=d) \/ ∃ x' k,x=some x'/\a.eval x' = .int k n:=by
  intro x y d n xv hb;cases x with
  | none=>cases y with
   | none=>simp [MQ]at hb;exact .inl ⟨rfl,rfl,hb.symm⟩
   | some y=>simp [XB]at xv
  | some x=>cases y with
   | none=>simp [XB]at xv
   | some y =>
    simp only[XB]at xv;simp only[MQ]at hb;cases hy:ρ y with
    | int k q =>
     rw[hy]at hb;simp only[Option.some.injEq]at hb;subst hb;exact .inr ⟨x,k,rfl,NU (hy ▸ hs x y xv)⟩
    | _=>rw[hy]at hb;cases hb
 have Du:h<=(cap:Int):=by omega
 unfold Instr.sliceAt Instr.slice Instr.sliceBounds;rcases Ax nz hl with ⟨rfl,_,rfl⟩|⟨x1,k1,rfl,e1⟩<;>rcases Ax Ov hh with ⟨rfl,_,rfl⟩|⟨x2,k2,rfl,e2⟩
 ·simp [run_underlying hu,sizeOf,typeInfo,hi]
 ·have Br:=run_sliceBound (P:=P) w k2 h cap .sliceAcap (by omega) Du
  simp [run_underlying hu,sizeOf,typeInfo,hi,e2,Br]
 ·have z7:=run_sliceBound (P:=P) w k1 l len .sliceB h0 (by omega)
  simp [run_underlying hu,sizeOf,typeInfo,hi,e1,z7]
 ·have Br:=run_sliceBound (P:=P) w k2 h cap .sliceAcap (by omega) Du
  have z7:=run_sliceBound (P:=P) w k1 l h.toNat .sliceB h0 (by omega);simp [run_underlying hu,sizeOf,typeInfo,hi,e1,e2,Br,z7]
theorem Alc (hm:D8 B S w0 m) (hs:FX B S m ρ a.eval) {a7:Nat} {x':BL} {ta u5:Option BL} (h:C4 P num o.op (.gn a7 x' ta u5)=true) (hx:ρ x' = .nil) (hl:MQ ρ 0 ta=some 0) (hh:MQ ρ 0 u5=some 0):F2 B S w0 P o a m (.val .nil):=by
 obtain ⟨ty,x,lo,wx,e,inf,m6,h1,h2,h3,hu,hi,z8,m7⟩:=wW h;have db:=eG (hx ▸ hs x x' h1);have w4:=qT ty e inf hu hi hs h2 h3 none 0 0 0 0 hl hh (by omega) (by omega) (by omega) (by omega) m.w;refine IU hm (u := .slice none 0 0) ?_ (.ca (.one .nil));simp only[execOp,m6,db,Sem.run_bind,Option.map_none,w4];rfl
theorem Ald (hm:D8 B S w0 m) (hs:FX B S m ρ a.eval) {a7:Nat} {x':BL} {ta u5:Option BL} (h:C4 P num o.op (.gn a7 x' ta u5)=true) {s t z off len:Nat} {l u:Int} (hx:ρ x' = .row s t z off len) (hl:MQ ρ 0 ta=some l) (hh:MQ ρ len u5=some u) (h0:0<=l) (Pc:l<=u) (su:u<=len) (hz:z=a7) :
  F2 B S w0 P o a m (.val (.row s t z (off+l.toNat) (u.toNat-l.toNat))):=by
 obtain ⟨ty,x,lo,wx,e,inf,m6,h1,h2,h3,hu,hi,z8,m7⟩:=wW h;obtain ⟨ad,cap,db,ht,ff,ke,ha,hb⟩:=bH (hx ▸ hs x x' h1);have w4:=qT ty e inf hu hi hs h2 h3 ad len cap l u hl hh h0 Pc su ke m.w;refine IU hm ?_ (.ca (.one (.row s t z (off+l.toNat) (u.toNat-l.toNat) (if cap=l.toNat then ad else ad.map (·.add (l.toNat*inf.size))) (cap-l.toNat) ht ff (by omega) (λ hp => ?_) λ b m4 => ?_)))
 ·simp only[execOp,m6,db,Sem.run_bind,Option.map_none,w4]
  rfl
 ·rw[if_neg (by omega)]
  obtain ⟨Hk,rfl⟩:=Option.isSome_iff_exists.1 (ha (by omega));rfl
 ·obtain ⟨ma,fj⟩:=hb b m4
  refine ⟨ma,?_⟩;rcases fj with ⟨vf,jb⟩|⟨g,arr,e',hg,nc,Ou,hle⟩
  ·exact .inl ⟨by omega,by omega⟩
  ·by_cases hc:cap=l.toNat
   ·exact .inl ⟨by omega,by omega⟩
   ·refine .inr ⟨g,arr,e',hg,?_,Ou,?_⟩
    ·rw[if_neg hc,nc,z8,hz]
     simp only[Option.map_some,MO,Nat.add_mul]
    ·rw[show off+l.toNat+(cap-l.toNat)=off+cap by omega]
     exact hle
theorem Ale (hm:D8 B S w0 m) (hs:FX B S m ρ a.eval) {a7:Nat} {x':BL} {ta u5:Option BL} (h:C4 P num o.op (.gn a7 x' ta u5)=true) {lt:Bool} {es:List (List AV)} {l u:Int} (hx:ρ x' = .sl lt es) (hl:MQ ρ 0 ta=some l) (hh:MQ ρ es.length u5=some u) (h0:0<=l) (Pc:l<=u) (su:u<=es.length) (hz : ∀ e∈es,e.length=a7) :
  F2 B S w0 P o a m (.val (.sl lt ((es.take u.toNat).drop l.toNat))):=by
 obtain ⟨ty,x,lo,wx,e,inf,m6,h1,h2,h3,hu,hi,z8,m7⟩:=wW h;have oz:=nX (hx ▸ hs x x' h1);generalize db:a.eval x=v at oz;cases oz with
 | my _ ad cap =>
  have w4:=qT ty e inf hu hi hs h2 h3 ad 0 cap l u hl hh h0 Pc (by simpa using su) (by omega) m.w;simp only[List.length_nil]at su;rw[show (([]:List (List AV)).take u.toNat).drop l.toNat=[] by simp];refine IU hm (u := .slice (if cap=l.toNat then ad else ad.map (·.add (l.toNat*inf.size))) 0 (cap-l.toNat)) ?_ (.ca (.one (.rd (.my lt _ _))));simp only[execOp,m6,db,Sem.run_bind,Option.map_none,w4];rw[show u.toNat-l.toNat=0 by omega];rfl
 | sl _ _ b ob z9 cap uu zq hp hR da ml hc hr =>
  have w4:=qT ty e inf hu hi hs h2 h3 (some ⟨b,ob,none⟩) es.length cap l u hl hh h0 Pc su da m.w;have My:z9=a7:=by
   cases es with
   | nil=>exact absurd rfl zq
   | cons q r=>rw[<-ml q (by simp),hz q (by simp)]
  subst My;by_cases ff:u.toNat-l.toNat=0
  ·have:(es.take u.toNat).drop l.toNat=[]:=by
    apply List.eq_nil_of_length_eq_zero;simp;omega
   rw[this];refine IU hm (u := .slice (if cap=l.toNat then some ⟨b,ob,none⟩ else (some (⟨b,ob,none⟩:Addr)).map (·.add (l.toNat*inf.size))) 0 (cap-l.toNat)) ?_ (.ca (.one (.rd (Rd.my lt _ _))));simp only[execOp,m6,db,Sem.run_bind,Option.map_none,w4];rw[ff];rfl
  ·have hlen:((es.take u.toNat).drop l.toNat).length=u.toNat-l.toNat:=by simp;omega
   have o4 : ∀ i,i<u.toNat-l.toNat->((es.take u.toNat).drop l.toNat)[i]? = es[l.toNat+i]? := λ i u5=>by
    rw[List.getElem?_drop,List.getElem?_take,if_pos (by omega)]
   refine IU hm (u := .slice (some ⟨b,ob+l.toNat*z9,none⟩) ((es.take u.toNat).drop l.toNat).length (cap-l.toNat)) ?_ (.ca (.one (.rd (.sl lt _ b (ob+l.toNat*z9) z9 (cap-l.toNat) (λ i j=>uu (l.toNat+i) j) (λ e=>ff (by rw[<-hlen,e];rfl)) hp hR (by rw[hlen];omega) (λ q hq=>ml q (List.mem_of_mem_take (List.mem_of_mem_drop hq))) (λ i q u5 j c hj => ?_) (λ i q u5 j c hj => ?_)))))
   ·simp only[execOp,m6,db,Sem.run_bind,Option.map_none,w4]
    rw[if_neg (by omega),hlen,z8];simp only[Option.map_some,MO];rfl
   ·have im:i<u.toNat-l.toNat:=by rw[<-hlen];exact (zS u5).1
    rw[o4 i im]at u5;rw[show ob+l.toNat*z9+(i*z9+j)=ob+((l.toNat+i)*z9+j) by rw[Nat.add_mul];omega];exact hc _ q u5 j c hj
   ·have im:i<u.toNat-l.toNat:=by rw[<-hlen];exact (zS u5).1
    rw[o4 i im]at u5;exact hr _ q u5 j c hj
structure iK (B:Nat) (S:Nat->Prop) (m:M) (a7:Nat) (ys:List (List AV)) (ad:Option Addr) (news:List Value):Prop where
 len:news.length=ys.length*a7
 cells : ∀ b,ad=some b -> ∀ j v,news[j]? = some v->m.w.cell? (b.add j)=some v
 some_:ys≠[]->ad.isSome=true
 rel : ∀ i cs,ys[i]? = some cs -> ∀ j c,cs[j]? = some c -> ∃ u,news[i*a7+j]? = some u/\CC B S m c u
theorem Akw (a7 i j:Nat) (h:j<a7):(i*a7+j)/a7=i/\(i*a7+j)%a7=j:=by
 constructor
 ·rw[Nat.add_comm,Nat.add_mul_div_right _ _ (by omega),Nat.div_eq_of_lt h,Nat.zero_add]
 ·rw[Nat.add_comm,Nat.add_mul_mod_self_right,Nat.mod_eq_of_lt h]
theorem oH (hm:D8 B S w0 m) {av:AV} {v:Value} (hc:CV B S m av v) {ys:List (List AV)} (he:IM m.own av=some ys) {a7:Nat} (hz : ∀ e∈ys,e.length=a7) (h0:0<a7) :
  ∃ ad cap news,v = .slice ad ys.length cap/\iK B S m a7 ys ad news:=by
 cases av with
 | sl l es =>
  simp only[IM,Option.some.injEq]at he;subst he;cases nX hc with
  | my _ ad cap=>exact ⟨ad,cap,[],rfl,by simp,λ b _ j v hv=>by simp at hv,λ h=>absurd rfl h,λ i cs hi=>by simp at hi⟩
  | sl _ _ b ob z9 cap uu zq hp hR da ml o6 hr =>
   have My:z9=a7:=by
    cases es with
    | nil=>exact absurd rfl zq
    | cons q r=>rw[<-ml q (by simp),hz q (by simp)]
   subst My;refine ⟨some ⟨b,ob,none⟩,cap,(List.range (es.length*z9)).map (λ k=>uu (k/z9) (k%z9)),rfl,by simp,λ b' m4 j v hv => ?_,λ_=>rfl,λ i cs hi j c hj => ?_⟩
   ·obtain rfl:(⟨b,ob,none⟩:Addr)=b':=by simpa using m4
    rw[List.getElem?_map]at hv;have gu:j<es.length*z9:=by
     rcases Nat.lt_or_ge j (es.length*z9) with h|h
     ·exact h
     ·rw[List.getElem?_eq_none (by simpa using h)]at hv;cases hv
    rw[List.getElem?_range gu]at hv;simp only[Option.map_some,Option.some.injEq]at hv;subst hv;have hd:j/z9<es.length:=Nat.div_lt_of_lt_mul (by rw[Nat.mul_comm];exact gu);have Ij:j%z9<z9:=Nat.mod_lt _ h0;have dp:(es[j/z9]).length=z9:=ml _ (List.getElem_mem hd);have:=o6 (j/z9) _ (zE hd) (j%z9) _ (zE (by rw[dp];exact Ij))
    rw[MO,<-this];congr 2;have:=Nat.div_add_mod j z9
    rw[Nat.mul_comm]at this;omega
   ·have gu:j<z9:=by rw[<-ml cs (zM hi)];exact (zS hj).1
    have im:i<es.length:=(zS hi).1;have l7:i*z9+j<es.length*z9:=by
     have:(i+1)*z9<=es.length*z9:=zR _ im
     rw[Nat.succ_mul]at this;omega
    obtain ⟨e1,e2⟩:=Akw z9 i j gu;refine ⟨uu i j,?_,.rd (hr i cs hi j c hj)⟩;rw[List.getElem?_map,List.getElem?_range l7];simp [e1,e2]
 | nil =>
  simp only[IM,Option.some.injEq]at he;subst he;exact ⟨none,0,[],eG hc,by simp,λ b hb=>(by cases hb),λ h=>absurd rfl h,λ i cs hi=>by simp at hi⟩
 | row s t z off len =>
  obtain ⟨ad,cap,hv,ht,ff,ke,ha,hb⟩:=bH hc;simp only[IM]at he;cases o4:m.own.get s t with
  | none=>simp [o4]at he
  | some b =>
   simp only[o4]at he;split at he
   ·rename_i hle
    obtain ⟨hle,ma⟩:=hle;obtain rfl:=Option.some.inj he;have Je:((b.es.drop off).take len).length=len:=by simp;omega
    obtain ⟨_,fj⟩:=hb b o4;by_cases vf:len=0
    ·subst vf
     refine ⟨ad,cap,[],by simpa using hv,by simp,λ b _ j v hv=>by simp at hv,λ h=>absurd (by simp) h,λ i cs hi=>by simp at hi⟩
    ·rcases fj with ⟨h1,_⟩|⟨g,arr,e',hg,nc,Ou,AJx⟩
     ·exact absurd h1 vf
     ·obtain ⟨ml,di⟩:=hm.c9 s t b o4
      rw[hg]at di;obtain ⟨hB,tj,e2,zj,aj⟩:=di;rw[Ou]at zj;obtain ⟨rfl,rfl⟩:arr=tj/\e'=e2:=by simpa using zj
      have hez:a7=z:=by
       have l7:off<b.es.length:=by omega
       have h1:b.es[off]∈(b.es.drop off).take len:=by
        have:((b.es.drop off).take len)[0]? = some b.es[off]:=by
         rw[List.getElem?_take,if_pos (by omega),List.getElem?_drop];simp [l7]
        exact zM this
       rw[<-hz _ h1,ml _ (List.getElem_mem l7),ma]
      subst hez;have z8:off*a7+len*a7<=arr.size:=by
       have:(off+len)*a7<=(off+cap)*a7:=zR _ (by omega)
       rw[Nat.add_mul]at this;omega
      refine ⟨ad,cap,(arr.toList.drop (off*a7)).take (len*a7),by rw[Je];exact hv,by rw[Je];simp;omega,λ b' m4 j v kj => ?_,λ_=>by rw[nc];rfl,λ i cs hi j c hj => ?_⟩
      ·rw[nc]at m4
       obtain rfl:(⟨g,off*a7,none⟩:Addr)=b':=by simpa using m4
       rw[List.getElem?_take]at kj;split at kj
       ·rw[List.getElem?_drop]at kj
        rw[MO,nO Ou];simpa using kj
       ·cases kj
      ·rw[List.getElem?_take]at hi
       split at hi
       ·rename_i im
        rw[List.getElem?_drop]at hi;have gu:j<a7:=by rw[<-ma,<-ml cs (zM hi)];exact (zS hj).1
        obtain ⟨u,hu,du⟩:=aj (off+i) cs hi j c hj;refine ⟨u,?_,du⟩;have l7:i*a7+j<len*a7:=by
         have:(i+1)*a7<=len*a7:=zR _ im
         rw[Nat.succ_mul]at this;omega
        rw[List.getElem?_take,if_pos l7,List.getElem?_drop,<-hu,ma];simp only[Array.getElem?_toList];congr 1;rw[Nat.add_mul];omega
       ·cases hi
   ·cases he
 | dc v' =>
  cases v' with
  | bool b =>
   simp only[IM,Option.some.injEq]at he;subst he;obtain ⟨ad,cap,hv,_⟩:=Zx hc;exact ⟨ad,cap,[],hv,by simp,λ b' m4 j v kj=>by simp at kj,λ h=>absurd rfl h,λ i cs hi=>by simp at hi⟩
  | _=>simp [IM]at he
 | _=>simp [IM]at he
theorem iK.one {a7:Nat} {ys:List (List AV)} {ad:Option Addr} {news:List Value} (h:iK B S m a7 ys ad news) (h0:0<a7) (hz : ∀ e∈ys,e.length=a7) : ∀ u∈news,u.oneCell'=true:=by
 intro u hu;obtain ⟨k,hk,rfl⟩:=List.getElem_of_mem hu;rw[h.len]at hk;have hd:k/a7<ys.length:=Nat.div_lt_of_lt_mul (by rw[Nat.mul_comm];exact hk);have Ij:k%a7<a7:=Nat.mod_lt _ h0;have dp:(ys[k/a7]).length=a7:=hz _ (List.getElem_mem hd);obtain ⟨u',jm,hc⟩:=h.rel (k/a7) _ (zE hd) (k%a7) _ (zE (by rw[dp];exact Ij));have sf:k/a7*a7+k%a7=k:=by
  have:=Nat.div_add_mod k a7
  rw[Nat.mul_comm]at this;exact this
 rw[sf]at jm;obtain rfl:news[k]=u':=by
  have:=(zS jm).2
  exact this
 exact hc.one
theorem iK.src {a7:Nat} {ys:List (List AV)} {ad:Option Addr} {news:List Value} (h:iK B S m a7 ys ad news) (h0:0<a7) (hz : ∀ e∈ys,e.length=a7) {t e:TypeId} (hu:P.underlying t=some (.slice e)) (cap:Nat):Src P a7 t (.slice ad ys.length cap) ys.length news m.w:=by
 cases ad with
 | none =>
  have wc:ys=[]:=by
   cases ys with
   | nil=>rfl
   | cons y r=>exact absurd (h.some_ (by simp)) (by simp)
  subst wc;have hn:news=[]:=List.eq_nil_of_length_eq_zero (by simpa using h.len);subst hn;exact Src.ofNil m.w hu cap
 | some b=>exact Src.ofSlice m.w hu b ys.length cap news h.len (h.cells b rfl) (h.one h0 hz)
theorem AeX (arr:Array Value) (off:Nat) (news:List Value) (h:off+news.length<=arr.size) (p:Nat):(arr.toList.take off++news++arr.toList.drop (off+news.length)).toArray[p]? = if p<off then arr[p]? else if p<off+news.length then news[p-off]? else arr[p]? := by
 simp only[List.getElem?_toArray];rw[rE _ _ _ (by simpa using h)];simp only[Array.getElem?_toList]
theorem Aqd (t tx e ex:TypeId) (i:TypeInfo) (ht:P.underlying t=some (.slice e)) (hx:P.underlying tx=some (.slice ex)) (hi:P.info? e=some i) (g off ug wq:Nat) (x:Value) (n:Nat) (news:List Value) (w:World) (hs:Src P i.size tx x n news w) (qp:ug+n<=wq) (arr:Array Value) (e':TypeId)
  (hh:w.heap[g]? = some (.cells arr e' (0,0))) (z8:off+ug*i.size+news.length<=arr.size) (ty:TypeId) :
  (Builtin.append_ #[t,tx] ty #[.slice (some ⟨g,off,none⟩) ug wq,x]).run P w = .ok (.slice (some ⟨g,off,none⟩) (ug+n) wq) (w.setRow g (arr.toList.take (off+ug*i.size)++news++arr.toList.drop (off+ug*i.size+news.length)).toArray):=by
 have j8:=run_storeCells_at (P:=P) g (off+ug*i.size) e' news 0 arr w hh (by omega) hs.one;simp only[Nat.add_zero]at j8;simp [Builtin.append_,run_underlying ht,run_underlying hx,sizeOf,typeInfo,hi,hs.len,qp,hs.cells,MO,j8]
theorem AfG (t tx e ex:TypeId) (i:TypeInfo) (ht:P.underlying t=some (.slice e)) (hx:P.underlying tx=some (.slice ex)) (hi:P.info? e=some i) (ad:Option Addr) (wq:Nat) (x:Value) (w:World) (hs:Src P i.size tx x 0 [] w) (ty:TypeId) :
  (Builtin.append_ #[t,tx] ty #[.slice ad 0 wq,x]).run P w = .ok (.slice ad 0 wq) w:=by
 have hc:=hs.cells;cases ad<;>simp [Builtin.append_,run_underlying ht,run_underlying hx,sizeOf,typeInfo,hi,hs.len,hc,storeCells]
theorem lJ {x y:Operand} {t tx:TypeId} (m6:o.op = .call ⟨.builtin .append,#[x,y],#[t,tx]⟩) {u:Value} {w w':World} (h:(Builtin.append_ #[t,tx] o.type #[a.eval x,a.eval y]).run P w = .ok u w'):(execOp a.eval o).run P w = .ok (.value u) w':=by
 simp [execOp,m6,resolve,invoke,builtin,h]
theorem AfJ {x y:Operand} {t:TypeId} (m6:o.op = .call ⟨.builtin .copy,#[x,y],#[t,t]⟩) {u:Value} {w w':World} (h:(Builtin.copy_ #[t,t] o.type #[a.eval x,a.eval y]).run P w = .ok u w'):(execOp a.eval o).run P w = .ok (.value u) w':=by
 simp [execOp,m6,resolve,invoke,builtin,h]
theorem Anz (fh news:List Value) (z:Array Value) (k p:Nat) (h:p<fh.length+news.length):((fh++news).toArray++Builtin.zeroCells z k)[p]? = (fh++news)[p]? := by
 rw[Array.getElem?_append_left (by simpa using h)];simp
theorem ApZ {a7 len:Nat} {xs ys:List (List AV)} {fh news:List Value} (Bb:xs.length=len) (Pg:fh.length=len*a7) (hzx : ∀ e∈xs,e.length=a7)
  (hx : ∀ i cs,xs[i]? = some cs -> ∀ j c,cs[j]? = some c -> ∃ u,fh[i*a7+j]? = some u/\CC B S m c u)
  (hy : ∀ i cs,ys[i]? = some cs -> ∀ j c,cs[j]? = some c -> ∃ u,news[i*a7+j]? = some u/\CC B S m c u) :
  ∀ i cs,(xs++ys)[i]? = some cs -> ∀ j c,cs[j]? = some c -> ∃ u,(fh++news)[i*a7+j]? = some u/\CC B S m c u:=by
 intro i cs hi j c hj;by_cases im:i<len
 ·rw[List.getElem?_append_left (by omega)]at hi
  obtain ⟨u,hu,hc⟩:=hx i cs hi j c hj;exact ⟨u,by rw[List.getElem?_append_left (by have:=(zS hu).1;omega)];exact hu,hc⟩
 ·rw[List.getElem?_append_right (by omega),Bb]at hi
  obtain ⟨u,hu,hc⟩:=hy (i-len) cs hi j c hj;refine ⟨u,?_,hc⟩;have e1:i*a7=len*a7+(i-len)*a7:=by rw[<-Nat.add_mul];congr 1;omega
  rw[List.getElem?_append_right (by omega),<-hu];congr 1;omega
theorem AeO {s z n cap:Nat} {es:List (List AV)} {w':World} {g t:Nat} {arr:Array Value} {e:TypeId} (hz:0<z) (hn:n<=cap) (hg:w'.heap[g]? = some (.cells arr e (0,0))) (hc:cap*z<=arr.size) :
  CV B S ⟨j6 m s (some g),m.own.put s (((m.own s).w6 t none).new ⟨z,es⟩),w'⟩ (.row s (m.own.j5 s) z 0 n) (.slice (some ⟨g,0,none⟩) n cap):=by
 refine .ca (.one (.row s (m.own.j5 s) z 0 n _ cap ?_ hz hn (λ_=>rfl) λ b' m4=>⟨?_,.inr ⟨g,arr,e,?_,by simp,hg,by simpa using hc⟩⟩))
 ·show _<BD.j5 _ s
  rw[nT];simp
 ·change BD.get _ s _=some b' at m4
  rw[bY,if_pos ⟨rfl,rfl⟩]at m4;obtain rfl:(⟨z,es⟩:HU)=b':=by simpa using m4
  rfl
 ·simp [j6]
theorem Ajr (hm:D8 B S w0 m) (ob:Obj):Below B w0 (m.w.drew.alloc ob):=hm.below.drew.alloc (by simpa using hm.size) ob
theorem AkE (hm:D8 B S w0 m) (hs:FX B S m ρ a.eval) {s a7 bytes:Nat} {x' y':BL} (h:C4 P num o.op (.app s a7 bytes x' y')=true) {ys:List (List AV)} (hy:IM m.own (ρ y')=some ys) (hz : ∀ e∈ys,e.length=a7) {s' t len:Nat} {b:HU} (hx:ρ x' = .row s' t a7 0 len) (o4:m.own.get s' t=some b)
  (ma:b.a7=a7) (hle:len<=b.es.length) (qp:(len+ys.length)*bytes<=I3) (Rp:len+ys.length<=9223372036854775807) :
  F2 B S w0 P o a m (.fp (.row s' (m.own.j5 s') a7 0 (len+ys.length)) (m.own.put s' (((m.own s').w6 t none).new ⟨a7,b.es.take len++ys⟩))):=by
 obtain ⟨x,y,ty,e,i,z,tx,ex,m6,h1,h2,hu,hi,z8,yn,ff,ml,m7,Iq⟩:=Ad4 h;have h0:0<a7:=Nat.pos_of_ne_zero m7;obtain ⟨ad,cap,db,ht,_,ke,ha,hb⟩:=bH (hx ▸ hs x x' h1);obtain ⟨ti,fi,news,wg,dp⟩:=oH hm (hs y y' h2) hy hz h0;have qu:Src P i.size tx (.slice ti ys.length fi) ys.length news m.w:=by rw[z8];exact dp.src h0 hz Iq fi
 obtain ⟨rz,di⟩:=hm.c9 s' t b o4;obtain ⟨_,fj⟩:=hb b o4;have kp:(b.es.take len).length=len:=by simp;omega
 have Em : ∀ q∈b.es.take len++ys,q.length=a7:=λ q hq=>by
  rcases List.mem_append.1 hq with hq|hq
  ·rw[<-ma];exact rz q (List.mem_of_mem_take hq)
  ·exact hz q hq
 intro K Q hK;by_cases Bz:len+ys.length<=cap
 ·rcases fj with ⟨vf,jb⟩|⟨g,arr,e',hg,nc,hh,Lb⟩
  ·have wc:ys=[]:=List.eq_nil_of_length_eq_zero (by omega)
   subst wc;subst vf jb;have zn:news=[]:=List.eq_nil_of_length_eq_zero (by simpa using dp.len);subst zn;have w4:=AfG ty tx e ex i hu Iq hi ad 0 (.slice ti 0 fi) m.w (by simpa using qu) o.type;obtain ⟨k1,k2⟩:=xL hm s' t b ⟨a7,b.es.take 0++[]⟩ o4 none m.w hm.below (Nat.le_refl _) (λ_ _ _=>rfl) (by simp) (by simp) (by simp);refine WQ (lJ m6 (by rw[db,wg];simpa using w4)) (hK _ ⟨j6 m s' none,m.own.put s' (((m.own s').w6 t none).new ⟨a7,b.es.take 0++[]⟩),m.w⟩ rfl k1 k2 (.ca (.one (.row s' (m.own.j5 s') a7 0 0 ad 0 ?_ h0 (Nat.le_refl _) (λ h=>by omega) λ b' m4=>⟨?_,.inl ⟨rfl,rfl⟩⟩))))
   ·show _<BD.j5 _ s'
    rw[nT];simp
   ·change BD.get _ s' _=some b' at m4
    rw[bY,if_pos ⟨rfl,rfl⟩]at m4;obtain rfl:(⟨a7,b.es.take 0++[]⟩:HU)=b':=by simpa using m4
    rfl
  ·have Fl:ad=some ⟨g,0,none⟩:=by simpa using nc
   rw[hg]at di;obtain ⟨hB,tj,e2,zj,aj⟩:=di;rw[hh]at zj;obtain ⟨rfl,rfl⟩:arr=tj/\e'=e2:=by simpa using zj
   have eu:news.length=ys.length*a7:=dp.len;have hbound:len*a7+news.length<=arr.size:=by
    have:(len+ys.length)*a7<=(0+cap)*a7:=zR _ (by omega)
    rw[Nat.add_mul]at this;omega
   have w4:=Aqd ty tx e ex i hu Iq hi g 0 len cap (.slice ti ys.length fi) ys.length news m.w qu Bz arr e' hh (by rw[z8];omega) o.type;rw[z8,Nat.zero_add]at w4;generalize jv:(arr.toList.take (len*a7)++news++arr.toList.drop (len*a7+news.length)).toArray=w3 at w4;have dz : ∀ p,w3[p]? = if p<len*a7 then arr[p]? else if p<len*a7+news.length then news[p-len*a7]? else arr[p]? := λ p=>by rw[<-jv];exact AeX arr (len*a7) news hbound p
   have mf:w3.size=arr.size:=by rw[<-jv];simp;omega
   obtain ⟨k1,k2⟩:=xL hm s' t b ⟨a7,b.es.take len++ys⟩ o4 (some g) (m.w.setRow g w3) (sZ hm hB w3) (by simp) (λ k _ zq=>setRow_other _ _ _ _ (λ e=>zq (e ▸ hg))) Em (by simp) (λ g' nn=>by
    obtain rfl:g=g':=by simpa using nn
    refine ⟨hB,.inr hg,w3,e',setRow_heap _ _ _ _ _ _ hh,λ i' cs u5 j c hj => ?_⟩;show ∃ u,w3[i'*a7+j]? = some u/\_;by_cases im:i'<len
    ·rw[List.getElem?_append_left (by omega),List.getElem?_take,if_pos im]at u5
     have gu:j<a7:=by rw[<-ma,<-rz cs (zM u5)];exact (zS hj).1
     obtain ⟨u,jm,du⟩:=aj i' cs u5 j c hj;refine ⟨u,?_,du⟩;have:(i'+1)*a7<=len*a7:=zR _ im
     rw[Nat.succ_mul]at this;rw[dz,if_pos (by omega),<-jm,ma]
    ·rw[List.getElem?_append_right (by omega),kp]at u5
     obtain ⟨u,jm,du⟩:=dp.rel (i'-len) cs u5 j c hj;refine ⟨u,?_,du⟩;have su:=(zS jm).1;have e1:i'*a7=len*a7+(i'-len)*a7:=by rw[<-Nat.add_mul];congr 1;omega
     rw[dz,if_neg (by omega),if_pos (by omega),<-jm];congr 1;omega)
   exact WQ (lJ m6 (by rw[db,wg,Fl];exact w4)) (hK _ ⟨j6 m s' (some g),m.own.put s' (((m.own s').w6 t none).new ⟨a7,b.es.take len++ys⟩),m.w.setRow g w3⟩ rfl k1 k2 (AeO h0 Bz (setRow_heap _ _ _ _ _ _ hh) (by rw[mf];simpa using Lb)))
 ·have Dy:cap<len+ys.length:=by omega
  obtain ⟨fh,Pg,hold,Mb⟩ : ∃ fh:List Value,fh.length=len*a7/\(Builtin.firstCells i.size len (.slice ad len cap)).run P m.w.drew = .ok fh.toArray m.w.drew/\(∀ i' cs,(b.es.take len)[i']? = some cs -> ∀ j c,cs[j]? = some c -> ∃ u,fh[i'*a7+j]? = some u/\CC B S m c u):=by
   rcases fj with ⟨vf,jb⟩|⟨g,arr,e',hg,nc,hh,Lb⟩
   ·subst vf
    refine ⟨[],by simp,?_,λ i' cs u5=>by simp at u5⟩;cases ad with
    | none=>exact run_firstCells_none m.w.drew i.size 0 0 cap
    | some Hk=>exact run_firstCells_some m.w.drew i.size 0 Hk 0 cap [] (by simp) (λ j v hv=>by simp at hv)
   ·have Fl:ad=some ⟨g,0,none⟩:=by simpa using nc
    rw[hg]at di;obtain ⟨hB,tj,e2,zj,aj⟩:=di;rw[hh]at zj;obtain ⟨rfl,rfl⟩:arr=tj/\e'=e2:=by simpa using zj
    have o6:len*a7<=arr.size:=by
     have:len*a7<=(0+cap)*a7:=zR _ (by omega)
     omega
    refine ⟨arr.toList.take (len*a7),by simp;omega,?_,λ i' cs u5 j c hj => ?_⟩
    ·rw[Fl]
     refine run_firstCells_some m.w.drew i.size len ⟨g,0,none⟩ len cap _ (by rw[z8];simp;omega) (λ j v hv => ?_);rw[List.getElem?_take]at hv;split at hv
     ·rw[MO,nO (w:=m.w.drew) (show m.w.heap[g]? = _ from hh)]
      simpa using hv
     ·cases hv
    ·rw[List.getElem?_take]at u5
     split at u5
     ·rename_i im
      have gu:j<a7:=by rw[<-ma,<-rz cs (zM u5)];exact (zS hj).1
      obtain ⟨u,jm,du⟩:=aj i' cs u5 j c hj;refine ⟨u,?_,du⟩;have:(i'+1)*a7<=len*a7:=zR _ im
      rw[Nat.succ_mul]at this;rw[List.getElem?_take,if_pos (by omega),<-jm,ma];simp
     ·cases u5
  have w4:=run_append_grow_src (P:=P) m.w ty tx o.type e i z hu hi ff ad len cap fh hold (.slice ti ys.length fi) ys.length news qu Dy (by omega) (growslice_fits Dy (by rw[yn];exact qp));have eu:news.length=ys.length*a7:=dp.len;have da:len+ys.length<=grownCap m.w (len+ys.length) cap e:=grownCap_ge _ _ _ _;generalize Oq:grownCap m.w (len+ys.length) cap e=gc at w4 da;have lz:=Ajr hm (.cells ((fh++news).toArray++Builtin.zeroCells z.cells (gc-(len+ys.length))) e);have me:(m.w.drew.alloc (.cells ((fh++news).toArray++Builtin.zeroCells z.cells (gc-(len+ys.length))) e)).heap[m.w.heap.size]? = some (.cells ((fh++news).toArray++Builtin.zeroCells z.cells (gc-(len+ys.length))) e (0,0)):=heap_alloc_new m.w.drew _;obtain ⟨k1,k2⟩:=xL hm s' t b ⟨a7,b.es.take len++ys⟩ o4 (some m.w.heap.size) _ lz (by simp) (λ k hk _=>Below.heap_alloc m.w.drew _ k hk) Em (by simp) (λ g' nn=>by
   obtain rfl:m.w.heap.size=g':=by simpa using nn
   refine ⟨hm.size,.inl (Nat.le_refl _),_,e,me,λ i' cs u5 j c hj => ?_⟩;obtain ⟨u,jm,du⟩:=ApZ kp Pg (λ q hq=>by rw[<-ma];exact rz q (List.mem_of_mem_take hq)) Mb dp.rel i' cs u5 j c hj;refine ⟨u,?_,du⟩;rw[Anz _ _ _ _ _ (by have:=(zS jm).1;simpa using this)];exact jm)
  refine WQ (lJ m6 (by rw[db,wg];exact w4)) (hK _ ⟨j6 m s' (some m.w.heap.size),m.own.put s' (((m.own s').w6 t none).new ⟨a7,b.es.take len++ys⟩),_⟩ rfl k1 k2 (AeO h0 da me ?_));have Cz:(Builtin.zeroCells z.cells (gc-(len+ys.length))).size=(gc-(len+ys.length))*a7:=by simp [Builtin.zeroCells,ml]
  rw[Array.size_append,Cz];simp only[List.size_toArray,List.length_append,Pg,eu];rw[<-Nat.add_mul,<-Nat.add_mul];exact zR _ (by omega)
theorem AkD (hm:D8 B S w0 m) (hs:FX B S m ρ a.eval) {s a7 bytes:Nat} {x' y':BL} (h:C4 P num o.op (.app s a7 bytes x' y')=true) {ys:List (List AV)} (hy:IM m.own (ρ y')=some ys) (hz : ∀ e∈ys,e.length=a7) (hx:ρ x' = .nil)
  (qp:ys.length*bytes<=I3) (Rp:ys.length<=9223372036854775807) :
  F2 B S w0 P o a m (.fp (.row s (m.own.j5 s) a7 0 ys.length) (m.own.put s ((m.own s).new ⟨a7,ys⟩))):=by
 obtain ⟨x,y,ty,e,i,z,tx,ex,m6,h1,h2,hu,hi,z8,yn,ff,ml,m7,Iq⟩:=Ad4 h;have h0:0<a7:=Nat.pos_of_ne_zero m7;have db:=eG (hx ▸ hs x x' h1);obtain ⟨ti,fi,news,wg,dp⟩:=oH hm (hs y y' h2) hy hz h0;have qu:Src P i.size tx (.slice ti ys.length fi) ys.length news m.w:=by rw[z8];exact dp.src h0 hz Iq fi
 intro K Q hK;by_cases wc:ys=[]
 ·subst wc
  have zn:news=[]:=List.eq_nil_of_length_eq_zero (by simpa using dp.len);subst zn;have w4:=AfG ty tx e ex i hu Iq hi none 0 (.slice ti 0 fi) m.w (by simpa using qu) o.type;obtain ⟨k1,k2⟩:=Ag0 hm s a7;refine WQ (lJ m6 (by rw[db,wg];simpa using w4)) (hK _ ⟨j6 m s none,m.own.put s ((m.own s).new ⟨a7,[]⟩),m.w⟩ rfl k1 k2 (.ca (.one (.row s (m.own.j5 s) a7 0 0 none 0 ?_ h0 (Nat.le_refl _) (λ h=>by omega) λ b' m4=>⟨?_,.inl ⟨rfl,rfl⟩⟩))))
  ·show _<BD.j5 _ s
   rw[QL];simp
  ·change BD.get _ s _=some b' at m4
   rw[K4,if_pos ⟨rfl,rfl⟩]at m4;obtain rfl:(⟨a7,[]⟩:HU)=b':=by simpa using m4
   rfl
 ·have Vt:0<ys.length:=List.length_pos_iff.2 wc
  have w4:=run_append_grow_src (P:=P) m.w ty tx o.type e i z hu hi ff none 0 0 [] (run_firstCells_none m.w.drew i.size 0 0 0) (.slice ti ys.length fi) ys.length news qu (by omega) (by omega) (growslice_fits (by omega) (by rw[yn,Nat.zero_add];exact qp));simp only[Nat.zero_add,List.nil_append]at w4;have eu:news.length=ys.length*a7:=dp.len;have da:ys.length<=grownCap m.w ys.length 0 e:=grownCap_ge _ _ _ _;generalize Oq:grownCap m.w ys.length 0 e=gc at w4 da;have hd:Below m.w.heap.size m.w m.w.drew:=(Below.refl _ _).drew;obtain ⟨ki,Lg⟩:=grow hm hd;obtain ⟨k1,k2⟩:=sV ki s ⟨a7,ys⟩ (news.toArray++Builtin.zeroCells z.cells (gc-ys.length)) e hz (λ i' cs u5 j c hj=>by
   obtain ⟨u,jm,du⟩:=dp.rel i' cs u5 j c hj;refine ⟨u,?_,Lg.cc du⟩;have su:=(zS jm).1;show (news.toArray++Builtin.zeroCells z.cells (gc-ys.length))[i'*a7+j]? = some u;rw[Array.getElem?_append_left (by simpa using su)];simpa using jm)
  have Cz:(Builtin.zeroCells z.cells (gc-ys.length)).size=(gc-ys.length)*a7:=by simp [Builtin.zeroCells,ml]
  refine WQ (lJ m6 (by rw[db,wg];exact w4)) (hK _ ⟨j6 ⟨m.ν,m.own,m.w.drew⟩ s (some m.w.drew.heap.size),m.own.put s ((m.own s).new ⟨a7,ys⟩),_⟩ rfl k1 (Lg.trans k2) (AeS (m:=⟨m.ν,m.own,m.w.drew⟩) h0 da (heap_alloc_new m.w.drew _) ?_));rw[Array.size_append,Cz];simp only[List.size_toArray,eu];rw[<-Nat.add_mul];exact zR _ (by omega)
end
end Go.b8
namespace Go.b8
open Go.RowKit
section
variable {B:Nat} {S:Nat->Prop} {w0:World} {m:M}
variable {P:Program} {num:Nat->Nat} {o:Oper} {a:Act} {ρ:BL->AV}
theorem Ars (ow:BD) (s t:Nat) (b:HU) (h:ow.get s t=some b):ow.put s ((ow s).w6 t (some b))=ow:=by
 funext s'
 unfold BD.put E4.w6;by_cases hs:s'=s
 ·subst hs
  rw[if_pos rfl];unfold BD.get at h;cases hx:ow s' with
  | mk c f =>
   rw[hx]at h;simp only at h;congr;funext t'
   by_cases ht:t'=t
   ·subst ht;simp [h]
   ·simp [ht]
 ·simp [hs]
theorem AfH (ty e:TypeId) (i:TypeInfo) (hu:P.underlying ty=some (.slice e)) (hi:P.info? e=some i) (ad:Option Addr) (Es Rm:Nat) (ti:Option Addr) (yl yc:Nat) (cs:List Value) (w w':World) (rt:TypeId)
  (hf:(Builtin.firstCells i.size (Nat.min yl Es) (.slice ti yl yc)).run P w = .ok cs.toArray w) (j8 : ∀ b,ad=some b->(storeCells b cs).run P w = .ok () w') (hn:ad=none->w'=w) :
  (Builtin.copy_ #[ty,ty] rt #[.slice ad Es Rm,.slice ti yl yc]).run P w = .ok (goInt (Nat.min yl Es)) w':=by
 cases ad with
 | none=>rw[hn rfl];simp [Builtin.copy_,run_underlying hu,sizeOf,typeInfo,hi,Builtin.lenOf,hf]
 | some b=>simp [Builtin.copy_,run_underlying hu,sizeOf,typeInfo,hi,Builtin.lenOf,hf,j8 b rfl]
theorem AkU (hm:D8 B S w0 m) (hs:FX B S m ρ a.eval) {a7:Nat} {x' y':BL} (h:C4 P num o.op (.pz a7 x' y')=true) {ys:List (List AV)} (hy:IM m.own (ρ y')=some ys) (hz : ∀ e∈ys,e.length=a7) {s t off len:Nat} {b:HU} (hx:ρ x' = .row s t a7 off len) (o4:m.own.get s t=some b)
  (ma:b.a7=a7) (hle:off+len<=b.es.length) :
  F2 B S w0 P o a m (.fp (.int .i64 (min ys.length len:Nat)) (m.own.put s ((m.own s).w6 t (some ⟨a7,b.es.take off++ys.take len++b.es.drop (off+min ys.length len)⟩)))):=by
 obtain ⟨x,y,ty,e,i,m6,h1,h2,hu,hi,z8,m7⟩:=Aok h;have h0:0<a7:=Nat.pos_of_ne_zero m7;obtain ⟨ad,cap,db,ht,_,ke,ha,hb⟩:=bH (hx ▸ hs x x' h1);obtain ⟨ti,fi,news,wg,dp⟩:=oH hm (hs y y' h2) hy hz h0;obtain ⟨rz,di⟩:=hm.c9 s t b o4;obtain ⟨_,fj⟩:=hb b o4;have eu:news.length=ys.length*a7:=dp.len;have AJs:min ys.length len*a7<=news.length:=by rw[eu];exact zR _ (Nat.min_le_left _ _)
 have yu:(news.take (min ys.length len*a7)).length=min ys.length len*a7:=by simp;omega
 have hf:(Builtin.firstCells i.size (Nat.min ys.length len) (.slice ti ys.length fi)).run P m.w = .ok (news.take (min ys.length len*a7)).toArray m.w:=by
  cases Mv:ti with
  | none =>
   have wc:ys=[]:=by
    cases ys with
    | nil=>rfl
    | cons q r=>exact absurd (dp.some_ (by simp)) (by simp [Mv])
   subst wc;simp only[List.length_nil,Nat.zero_min,Nat.zero_mul,List.take_zero];have:=run_firstCells_none (P:=P) m.w i.size 0 0 fi
   simpa using this
  | some yb =>
   refine run_firstCells_some m.w i.size _ yb ys.length fi _ (by rw[yu,z8]) (λ j v hv => ?_);rw[List.getElem?_take]at hv;split at hv
   ·exact dp.cells yb Mv j v hv
   ·cases hv
 intro K Q hK;by_cases hk:min ys.length len=0
 ·have jb:news.take (min ys.length len*a7)=[]:=by rw[hk];simp
  have k9:m.own.put s ((m.own s).w6 t (some ⟨a7,b.es.take off++ys.take len++b.es.drop (off+min ys.length len)⟩))=m.own:=by
   have Ak:ys.take len=[]:=by
    apply List.eq_nil_of_length_eq_zero;rw[List.length_take];omega
   rw[hk,Ak];have:b=⟨a7,b.es.take off++[]++b.es.drop (off+0)⟩:=by
    cases b with
    | mk z es=>simp at ma;subst ma;simp
   rw[<-this];exact Ars _ _ _ _ o4
  have w4:=AfH ty e i hu hi ad len cap ti ys.length fi _ m.w m.w o.type hf (λ b' _=>by rw[jb];rfl) (λ_=>rfl);refine WQ (AfJ m6 (by rw[db,wg];exact w4)) (hK _ m k9.symm hm (HC.refl m) (XL _ _))
 ·rcases fj with ⟨vf,jb⟩|⟨g,arr,e',hg,nc,hh,Lb⟩
  ·omega
  ·rw[hg]at di
   obtain ⟨hB,tj,e2,zj,aj⟩:=di;rw[hh]at zj;obtain ⟨rfl,rfl⟩:arr=tj/\e'=e2:=by simpa using zj
   have hbound:off*a7+(news.take (min ys.length len*a7)).length<=arr.size:=by
    rw[yu,<-Nat.add_mul];exact Nat.le_trans (zR _ (by omega)) Lb
   have od : ∀ u∈news.take (min ys.length len*a7),u.oneCell'=true:=λ u jm=>dp.one h0 hz u (List.mem_of_mem_take jm)
   have j8:=run_storeCells_at (P:=P) g (off*a7) e' (news.take (min ys.length len*a7)) 0 arr m.w hh (by omega) od;simp only[Nat.add_zero]at j8;generalize jv:(arr.toList.take (off*a7)++news.take (min ys.length len*a7)++arr.toList.drop (off*a7+(news.take (min ys.length len*a7)).length)).toArray=w3 at j8;have dz : ∀ p,w3[p]? = if p<off*a7 then arr[p]? else if p<off*a7+min ys.length len*a7 then (news.take (min ys.length len*a7))[p-off*a7]? else arr[p]? := λ p=>by
    rw[<-jv,AeX arr (off*a7) _ hbound p,yu]
   have mf:w3.size=arr.size:=by rw[<-jv];simp;omega
   obtain ⟨k1,k2⟩:=AgU hm s t b ⟨a7,b.es.take off++ys.take len++b.es.drop (off+min ys.length len)⟩ o4 g hg arr w3 e' hh ma.symm (λ q hq=>by
     rcases List.mem_append.1 hq with hq|hq
     ·rcases List.mem_append.1 hq with hq|hq
      ·rw[<-ma];exact rz q (List.mem_of_mem_take hq)
      ·exact hz q (List.mem_of_mem_take hq)
     ·rw[<-ma];exact rz q (List.mem_of_mem_drop hq)) mf
    (λ i' cs u5 j c hj=>by
     show ∃ u,w3[i'*a7+j]? = some u/\_;have Je:(ys.take len).length=min ys.length len:=by simp;omega
     change (b.es.take off++ys.take len++b.es.drop (off+min ys.length len))[i']? = some cs at u5;have Xe:=Je;rw[<-Xe,rE _ _ _ (by rw[Je];omega),Je]at u5;by_cases Ic:i'<off
     ·rw[if_pos Ic]at u5
      have gu:j<a7:=by rw[<-ma,<-rz cs (zM u5)];exact (zS hj).1
      obtain ⟨u,jm,du⟩:=aj i' cs u5 j c hj;have:(i'+1)*a7<=off*a7:=zR _ Ic
      rw[Nat.succ_mul]at this;exact ⟨u,by rw[dz,if_pos (by omega),<-jm,ma],du⟩
     ·rw[if_neg Ic]at u5
      have e1:i'*a7=off*a7+(i'-off)*a7:=by rw[<-Nat.add_mul];congr 1;omega
      by_cases wx:i'<off+min ys.length len
      ·rw[if_pos wx,List.getElem?_take,if_pos (by omega)]at u5
       have gu:j<a7:=by rw[<-hz cs (zM u5)];exact (zS hj).1
       obtain ⟨u,jm,du⟩:=dp.rel (i'-off) cs u5 j c hj;have h3:(i'-off+1)*a7<=min ys.length len*a7:=zR _ (by omega);rw[Nat.succ_mul]at h3;refine ⟨u,?_,du⟩;rw[dz,if_neg (by omega),if_pos (by omega),List.getElem?_take,if_pos (by omega),<-jm];congr 1;omega
      ·rw[if_neg wx]at u5
       obtain ⟨u,jm,du⟩:=aj i' cs u5 j c hj;have h3:(off+min ys.length len)*a7<=i'*a7:=zR _ (by omega);rw[Nat.add_mul]at h3;exact ⟨u,by rw[dz,if_neg (by omega),if_neg (by omega),<-jm,ma],du⟩)
    (m.w.setRow g w3) (sZ hm hB w3) (by simp) (λ k hk=>setRow_other _ _ _ _ hk) (setRow_heap _ _ _ _ _ _ hh)
   have w4:=AfH ty e i hu hi ad len cap ti ys.length fi _ m.w (m.w.setRow g w3) o.type hf (λ b' m4=>by
    rw[nc]at m4;obtain rfl:(⟨g,off*a7,none⟩:Addr)=b':=by simpa using m4
    exact j8) (λ hn=>by rw[nc]at hn;cases hn)
   exact WQ (AfJ m6 (by rw[db,wg];exact w4)) (hK _ ⟨m.ν,_,m.w.setRow g w3⟩ rfl k1 k2 (XL _ _))
structure L8 (P:Program) (num:Nat->Nat) (C:Cl):Prop where
 ye : ∀ (f:Nat) (vs:List AV) (r:AV),C.pure f vs=some r -> ∀ (us:Array Value) (w:World),(callFunc (num f) us).run P w = .ok (.enter (num f) us) w
 tp : ∀ (f:Nat) (vs:List AV) (own:BD) (r:AV × BD),C.kv f vs own=some r -> ∀ (us:Array Value) (w:World),(callFunc (num f) us).run P w = .ok (.enter (num f) us) w
 pure : ∀ (f:Nat) (vs:List AV) (r:AV),C.pure f vs=some r -> ∀ (S:Nat->Prop) (w:World) (us:List Value),vs.length=us.length->(∀ (j:Nat) (c:AV) (v:Value),vs[j]? = some c->us[j]? = some v->CA w.heap.size S ⟨λ_ _=>none,BD.emp,w⟩ c v) ->
  Calls P (num f) us.toArray w λ e w' => ∃ u,e = .returned u/\Below w.heap.size w w'/\CV w.heap.size S ⟨λ_ _=>none,BD.emp,w'⟩ r u/\B3 r
 kv : ∀ (f:Nat) (vs:List AV) (own:BD) (r:AV) (n6:BD),C.kv f vs own=some (r,n6) -> ∀ (B:Nat) (S:Nat->Prop) (w0:World) (m:M) (us:List Value),m.own=own->D8 B S w0 m->vs.length=us.length->(∀ (j:Nat) (c:AV) (v:Value),vs[j]? = some c->us[j]? = some v->CV B S m c v) ->
  Calls P (num f) us.toArray m.w λ e w' => ∃ u m',e = .returned u/\m'.w=w'/\m'.own=n6/\D8 B S w0 m'/\HC B S m m'/\CV B S m' r u
 num:C.num=num
end
end Go.b8

namespace Go.b8
open Go.RowKit
theorem YU {α β:Type} (f:α->Option β) : ∀ {l:List α} {l':List β},l.mapM f=some l'->l.length=l'.length /\ ∀ (i:Nat) (x:α),l[i]? = some x -> ∃ y,l'[i]? = some y/\f x=some y
 | [],l',h=>by
  simp at h;subst h;exact ⟨rfl,λ i x hx=>by simp at hx⟩
 | x::r,l',h=>by
  simp only[List.mapM_cons,Option.bind_eq_bind,Option.pure_def]at h;cases hx:f x with
  | none=>simp [hx]at h
  | some y =>
   cases hr:r.mapM f with
   | none=>simp [hx,hr]at h
   | some r' =>
    simp [hx,hr]at h;subst h;obtain ⟨h1,h2⟩:=YU f hr;refine ⟨by simp [h1],λ i z hz => ?_⟩;cases i with
    | zero=>simp at hz;subst hz;exact ⟨y,rfl,hx⟩
    | succ i=>exact h2 i z (by simpa using hz)
section
variable {B:Nat} {S:Nat->Prop} {w0:World} {m:M}
variable {P:Program} {num:Nat->Nat} {o:Oper} {a:Act} {ρ:BL->AV}
theorem Af7 (hm:D8 B S w0 m) (l0:Bool) (R:Bool->Nat->Prop) (hR : ∀ l b,b<m.w.heap.size->safe B S m l b->R l b) (hL : ∀ s t g,live m s t->m.ν s t=some g->R l0 g) :
  ∀ (d:Nat) (c c':AV) (v:Value),snap m.own l0 d c=some c'->CC B S m c v->Rd m.w R c' v:=by
 intro d;induction d with
 | zero =>
  intro c c' v h hc;cases hc with
  | rd hr =>
   have:c'=c:=by cases hr<;>simp [snap]at h<;>exact h.symm
   subst this;exact hr.mono hR (λ_ _ _ _=>rfl)
  | nil=>simp [snap]at h;subst h;exact .my _ _ _
  | _=>simp [snap]at h
 | succ d ih =>
  intro c c' v h hc;cases hc with
  | rd hr =>
   have:c'=c:=by cases hr<;>simp [snap]at h<;>exact h.symm
   subst this;exact hr.mono hR (λ_ _ _ _=>rfl)
  | nil=>simp [snap]at h;subst h;exact .my _ _ _
  | ptr=>simp [snap]at h
  | y9=>simp [snap]at h
  | row s t z off len ad cap ht ff ke ha hb =>
   simp only[snap]at h;cases dp:IM m.own (.row s t z off len) with
   | none=>simp [dp]at h
   | some es =>
    simp only[dp]at h;cases mb:es.mapM (λ cs:List AV=>cs.mapM (snap m.own l0 d)) with
    | none=>simp [mb]at h
    | some es' =>
     simp [mb]at h;subst h;have Xg:(∀ e∈es,e.length=z)/\es.length=len /\ ∃ b,m.own.get s t=some b:=by
      simp only[IM]at dp;cases o4:m.own.get s t with
      | none=>simp [o4]at dp
      | some b =>
       simp only[o4]at dp;split at dp
       ·rename_i hle
        obtain rfl:=Option.some.inj dp;refine ⟨λ e he => ?_,by simp;omega,b,rfl⟩;rw[<-hle.2];exact (hm.c9 s t b o4).1 e (List.mem_of_mem_drop (List.mem_of_mem_take he))
       ·cases dp
     obtain ⟨hz,hlen,b,o4⟩:=Xg;have ae:CV B S m (.row s t z off len) (.slice ad len cap):= .ca (.one (.row s t z off len ad cap ht ff ke ha hb));obtain ⟨ad2,Rj,news,Pp,hE⟩:=oH hm ae dp hz ff;obtain ⟨rfl,_,rfl⟩:ad=ad2/\len=es.length/\cap=Rj:=by simpa using Pp
     obtain ⟨iq,zi⟩:=YU _ mb;by_cases h0:es=[]
     ·subst h0
      have:es'=[]:=List.eq_nil_of_length_eq_zero (by rw[<-iq];rfl)
      subst this;have:len=0:=by rw[<-hlen];rfl
      subst this;exact .my _ _ _
     ·obtain ⟨_,fj⟩:=hb b o4
      rcases fj with ⟨AJu,_⟩|⟨g,arr,e',hg,nc,hh,Lb⟩
      ·exact absurd (List.eq_nil_of_length_eq_zero (by omega)) h0
      ·rw[nc,<-hlen,iq]
       refine .sl l0 es' g (off*z) z cap (λ i j=>news.getD (i*z+j) undef) (λ e=>h0 (List.eq_nil_of_length_eq_zero (by rw[iq,e];rfl))) ff (hL s t g ⟨b,o4⟩ hg) (by omega) (λ e' jy => ?_) (λ i e hi j c hj => ?_) (λ i e hi j c hj => ?_)
       ·obtain ⟨i,hi,rfl⟩:=List.getElem_of_mem jy
        have u5:i<es.length:=by omega
        obtain ⟨y,hy,ka⟩:=zi i es[i] (zE u5);have:es'[i]=y:=by
         have:=(zS hy).2;exact this
        rw[this,<-(YU _ ka).1];exact hz _ (List.getElem_mem u5)
       ·have u5:i<es.length:=by rw[iq];exact (zS hi).1
        obtain ⟨y,hy,ka⟩:=zi i es[i] (zE u5);rw[hi]at hy;obtain rfl:e=y:=by simpa using hy
        obtain ⟨jg,_⟩:=YU _ ka;have Ig:j<(es[i]).length:=by rw[jg];exact (zS hj).1
        obtain ⟨u,hu,du⟩:=hE.rel i es[i] (zE u5) j _ (zE Ig);have:=hE.cells _ nc (i*z+j) u hu
        rw[MO]at this;simp only[List.getD,hu,Option.getD_some];exact this
       ·have u5:i<es.length:=by rw[iq];exact (zS hi).1
        obtain ⟨y,hy,ka⟩:=zi i es[i] (zE u5);rw[hi]at hy;obtain rfl:e=y:=by simpa using hy
        obtain ⟨jg,nn⟩:=YU _ ka;have Ig:j<(es[i]).length:=by rw[jg];exact (zS hj).1
        obtain ⟨u,hu,du⟩:=hE.rel i es[i] (zE u5) j _ (zE Ig);obtain ⟨c2,yo,Cj⟩:=nn j _ (zE Ig);rw[hj]at yo;obtain rfl:c=c2:=by simpa using yo
        simp only[List.getD,hu,Option.getD_some];exact ih _ _ _ Cj du
def DA (w:World) (R:Bool->Nat->Prop) (c:AV) (v:Value):Prop :=
 Rd w R c v \/ ∃ (cs:List AV) (vs:List Value),c = .agg cs/\v = .agg vs.toArray/\cs.length=vs.length /\ ∀ (j:Nat) (x:AV) (u:Value),cs[j]? = some x->vs[j]? = some u->Rd w R x u
theorem rD (hm:D8 B S w0 m) (l0:Bool) (R:Bool->Nat->Prop) (hR : ∀ l b,b<m.w.heap.size->safe B S m l b->R l b) (hL : ∀ s t g,live m s t->m.ν s t=some g->R l0 g)
  {c c':AV} {v:Value} (h:F8 m.own l0 c=some c') (hc:CV B S m c v):DA m.w R c' v:=by
 cases hc with
 | any v=>simp [F8,snap]at h
 | g8=>simp [F8,snap]at h
 | ca hc=>cases hc with
  | one hc =>
   have h':snap m.own l0 6 c=some c':=by
    cases hc with
    | rd hr=>cases hr<;>simpa [F8] using h
    | _=>simpa [F8] using h
   exact Or.inl (Af7 hm l0 R hR hL 6 c c' v h' hc)
  | fn=>simp [F8,snap]at h
  | yf=>simp [F8,snap]at h
  | agg cs vs o6 =>
   simp only[F8]at h;cases jc:cs.mapM (snap m.own l0 6) with
   | none=>simp [jc]at h
   | some gp =>
    simp [jc]at h;subst h;obtain ⟨h1,h2⟩:=YU _ jc;refine Or.inr ⟨gp,vs,rfl,rfl,h1.symm.trans o6.1,λ j x u hx hu => ?_⟩;have hj:j<cs.length:=by rw[h1];exact (zS hx).1
    obtain ⟨y,hy,ka⟩:=h2 j cs[j] (zE hj);rw[hx]at hy;obtain rfl:x=y:=by simpa using hy
    exact Af7 hm l0 R hR hL 6 _ _ _ ka (o6.2 j cs[j] u (zE hj) hu)
def DV (w:World) (R:Bool->Nat->Prop) (c:AV) (v:Value):Prop :=
 DA w R c v \/ ∃ (cs:List AV) (vs:List Value),c = .g8 cs/\v = .tuple vs.toArray/\cs.length=vs.length /\ ∀ (j:Nat) (x:AV) (u:Value),cs[j]? = some x->vs[j]? = some u->DA w R x u
theorem AqI (hm:D8 B S w0 m) (l0:Bool) (R:Bool->Nat->Prop) (hR : ∀ l b,b<m.w.heap.size->safe B S m l b->R l b) (hL : ∀ s t g,live m s t->m.ν s t=some g->R l0 g)
  {c c':AV} {v:Value} (h:aG m.own l0 c=some c') (hc:CV B S m c v):DV m.w R c' v:=by
 by_cases ht : ∃ cs,c = .g8 cs
 ·obtain ⟨cs,rfl⟩:=ht
  obtain ⟨vs,rfl,hl,aj⟩:=tU hc;simp only[aG]at h;cases jc:cs.mapM (F8 m.own l0) with
  | none=>simp [jc]at h
  | some gp =>
   simp [jc]at h;subst h;obtain ⟨h1,h2⟩:=YU _ jc;refine Or.inr ⟨gp,vs,rfl,rfl,h1.symm.trans hl,λ j x u hx hu => ?_⟩;have hj:j<cs.length:=by rw[h1];exact (zS hx).1
   obtain ⟨y,hy,ka⟩:=h2 j cs[j] (zE hj);rw[hx]at hy;obtain rfl:x=y:=by simpa using hy
   exact rD hm l0 R hR hL ka (.ca (aj j cs[j] u (zE hj) hu))
 ·have h':F8 m.own l0 c=some c':=by
   cases c<;>first|exact h|exact absurd ⟨_,rfl⟩ ht
  exact Or.inl (rD hm l0 R hR hL h' hc)
theorem DA.ca {B:Nat} {S:Nat->Prop} {m:M} {c:AV} {v:Value} (h:DA m.w (safe B S m) c v):CA B S m c v:=by
 rcases h with h|⟨cs,vs,rfl,rfl,hl,hh⟩
 ·exact .one (.rd h)
 ·exact .agg cs vs ⟨hl,λ j x u hx hu => .rd (hh j x u hx hu)⟩
theorem DV.cv {B:Nat} {S:Nat->Prop} {m:M} {c:AV} {v:Value} (h:DV m.w (safe B S m) c v):CV B S m c v:=by
 rcases h with h|⟨cs,vs,rfl,rfl,hl,hh⟩
 ·exact .ca h.ca
 ·exact .g8 cs vs hl λ j x u hx hu=>(hh j x u hx hu).ca
theorem W7 : ∀ {cs:List AV},EC cs -> ∀ (j:Nat) (c:AV),cs[j]? = some c->B3 c
 | [],_,j,c,h=>by simp at h
 | x::r,hc,j,c,h=>by
  unfold EC at hc;cases j with
  | zero=>simp at h;subst h;exact hc.1
  | succ j=>exact W7 hc.2 j c (by simpa using h)
theorem nR : ∀ {cs:List (List AV)},IH cs -> ∀ (j:Nat) (c:List AV),cs[j]? = some c->EC c
 | [],_,j,c,h=>by simp at h
 | x::r,hc,j,c,h=>by
  unfold IH at hc;cases j with
  | zero=>simp at h;subst h;exact hc.1
  | succ j=>exact nR hc.2 j c (by simpa using h)
theorem Rd.clean {w:World} {R R':Bool->Nat->Prop} (hR : ∀ b,b<w.heap.size->R false b->R' false b) {c:AV} {v:Value} (h:Rd w R c v) (hc:B3 c):Rd w R' c v:=by
 induction h with
 | int k n=>exact .int k n
 | bool b=>exact .bool b
 | str s=>exact .str s
 | om=>exact .om
 | my l a cap=>exact .my l a cap
 | emp b a cap h=>exact .emp b a cap h
 | sl l es b o a7 cap u m7 hp h1 da hz o6 hr ih =>
  unfold B3 at hc;obtain ⟨rfl,hc⟩:=hc;obtain ⟨e,c,he,jb⟩:=kF m7 hp hz;have hb:b<w.heap.size:=bB (o6 0 e he 0 c jb);exact .sl false es b o a7 cap u m7 hp (hR b hb h1) da hz o6 λ i e he j c hj=>ih i e he j c hj (W7 (nR hc i e he) j c hj)
theorem DA.clean {w:World} {R R':Bool->Nat->Prop} (hR : ∀ b,b<w.heap.size->R false b->R' false b) {c:AV} {v:Value} (h:DA w R c v) (hc:B3 c):DA w R' c v:=by
 rcases h with h|⟨cs,vs,rfl,rfl,hl,hh⟩
 ·exact Or.inl (h.clean hR hc)
 ·unfold B3 at hc
  exact Or.inr ⟨cs,vs,rfl,rfl,hl,λ j x u hx hu=>(hh j x u hx hu).clean hR (W7 hc j x hx)⟩
theorem DV.clean {w:World} {R R':Bool->Nat->Prop} (hR : ∀ b,b<w.heap.size->R false b->R' false b) {c:AV} {v:Value} (h:DV w R c v) (hc:B3 c):DV w R' c v:=by
 rcases h with h|⟨cs,vs,rfl,rfl,hl,hh⟩
 ·exact Or.inl (h.clean hR hc)
 ·unfold B3 at hc
  exact Or.inr ⟨cs,vs,rfl,rfl,hl,λ j x u hx hu=>(hh j x u hx hu).clean hR (W7 hc j x hx)⟩
theorem tT {B:Nat} {S:Nat->Prop} {m:M} {c:AV} {v:Value} (h:CV B S m c v) (hc:B3 c):DV m.w (safe B S m) c v:=by
 have one : ∀ {c:AV} {v:Value},CC B S m c v->B3 c->Rd m.w (safe B S m) c v:=λ h hc=>by
  cases h with
  | rd h=>exact h
  | _=>unfold B3 at hc;exact hc.elim
 have ca : ∀ {c:AV} {v:Value},CA B S m c v->B3 c->DA m.w (safe B S m) c v:=λ h hc=>by
  cases h with
  | one h=>exact Or.inl (one h hc)
  | fn=>unfold B3 at hc;exact hc.elim
  | yf=>unfold B3 at hc;exact hc.elim
  | agg cs vs h =>
   unfold B3 at hc;exact Or.inr ⟨cs,vs,rfl,rfl,h.1,λ j x u hx hu=>one (h.2 j x u hx hu) (W7 hc j x hx)⟩
 cases h with
 | any v=>unfold B3 at hc;exact hc.elim
 | ca h=>exact Or.inl (ca h hc)
 | g8 as vs hl h =>
  unfold B3 at hc;exact Or.inr ⟨as,vs,rfl,rfl,hl,λ j x u hx hu=>ca (h j x u hx hu) (W7 hc j x hx)⟩
theorem qS {f:Nat} {xs:Array Operand} {ts:Array TypeId} (m6:o.op = .call ⟨.value (.func f),xs,ts⟩) {w:World} (h:(callFunc f (xs.map a.eval)).run P w = .ok (.enter f (xs.map a.eval)) w):(execOp a.eval o).run P w = .ok (.enter f (xs.map a.eval)) w:=by
 simp [execOp,m6,resolve,Deferred.ofValue,Act.eval,invoke];exact h
theorem Zh {C:Cl} (hC:L8 P num C) (hm:D8 B S w0 m) {f:Nat} {us:List Value} {as:List AV} (hl:us.length=as.length) (hx : ∀ (j:Nat) (v:Value) (c:AV),us[j]? = some v->as[j]? = some c->CV B S m c v) (hex : ∀ w:World,(callFunc (num f) us.toArray).run P w = .ok (.enter (num f) us.toArray) w->(execOp a.eval o).run P w = .ok (.enter (num f) us.toArray) w) {vs:List AV} {r:AV} (hv:as.mapM (F8 m.own true)=some vs) (hr:C.pure f vs=some r):F2 B S w0 P o a m (.val r):=by
 obtain ⟨jg,nn⟩:=YU _ hv;have nj : ∀ (j:Nat) (c:AV) (v:Value),vs[j]? = some c->us[j]? = some v->CA m.w.heap.size (safe B S m false) ⟨λ_ _=>none,BD.emp,m.w⟩ c v:=by
  intro j c v hc vi;have gu:j<as.length:=by rw[<-hl];exact (zS vi).1
  obtain ⟨y,hy,ka⟩:=nn j as[j] (zE gu);rw[hc]at hy;obtain rfl:c=y:=by simpa using hy
  have ae:=hx j v as[j] vi (zE gu);have Fp:=rD hm true (safe m.w.heap.size (safe B S m false) ⟨λ_ _=>none,BD.emp,m.w⟩) (λ l b hb Ck=>by
   cases l with
   | false=>exact .inl ⟨Ck,hb⟩
   | true=>exact .inr (.inr ⟨rfl,hb⟩)) (λ s t g ib hg=>by
   obtain ⟨_,arr,e,hh⟩:=hm.ge ib hg;exact .inr (.inr ⟨rfl,(Array.getElem?_eq_some_iff.1 hh).1⟩)) ka ae
  exact DA.ca (m:=⟨λ_ _=>none,BD.emp,m.w⟩) Fp
 have gy:=hC.pure f vs r hr (safe B S m false) m.w us (by rw[<-jg];exact hl.symm) nj;intro K Q hK;unfold Oper.wp;rw[hex _ (hC.ye f vs r hr _ _)];refine Calls.mono gy λ e w' ⟨u,jy,lz,ae,o6⟩ => ?_
 subst jy;obtain ⟨oy,je⟩:=grow hm lz;refine hK u ⟨m.ν,m.own,w'⟩ rfl oy je ?_;refine DV.cv (m:=⟨m.ν,m.own,w'⟩) ((tT ae o6).clean (λ b hb Ck => ?_) o6);rcases Ck with ⟨h1,h2⟩|⟨h1,_⟩|⟨h1,_⟩
 ·exact je.En false b h2 h1
 ·refine .inr (.inl ⟨Nat.le_trans hm.size h1,λ s t ib hg => ?_⟩)
  obtain ⟨b',m4⟩:=Option.isSome_iff_exists.1 ib;obtain ⟨_,arr,e,hh⟩:=hm.ge ⟨b',m4⟩ hg;have:=(Array.getElem?_eq_some_iff.1 hh).1
  omega
 ·cases h1
theorem Zg {C:Cl} (hC:L8 P num C) (hm:D8 B S w0 m) (hs:FX B S m ρ a.eval) {f:Nat} {xs:Array Operand} {s8:List BL} (he:IA xs.toList s8=true) (hex : ∀ w:World,(callFunc (num f) (xs.map a.eval)).run P w = .ok (.enter (num f) (xs.map a.eval)) w->(execOp a.eval o).run P w = .ok (.enter (num f) (xs.map a.eval)) w) {vs:List AV} {r:AV} (hv:(s8.map ρ).mapM (F8 m.own true)=some vs) (hr:C.pure f vs=some r):F2 B S w0 P o a m (.val r):=by
 obtain ⟨hl,hx⟩:=bM hs he;have ji:(xs.map a.eval)=(xs.toList.map a.eval).toArray:=by cases xs;simp
 rw[ji]at hex;refine Zh hC hm (us:=xs.toList.map a.eval) (as:=s8.map ρ) (by simp [hl]) (λ j v c h1 h2 => ?_) hex hv hr;rw[List.getElem?_map]at h1 h2;cases nu:xs.toList[j]? with
 | none=>simp [nu]at h1
 | some x =>
  cases sw:s8[j]? with
  | none=>simp [sw]at h2
  | some y =>
   simp only[nu,sw,Option.map_some,Option.some.injEq]at h1 h2;subst h1 h2;exact hx j x y nu sw
theorem AkK {C:Cl} (hC:L8 P num C) (hm:D8 B S w0 m) (hs:FX B S m ρ a.eval) {f:Nat} {s8:List BL} (h:C4 P num o.op (.call f s8)=true) {vs:List AV} {r:AV} (hv:(s8.map ρ).mapM (F8 m.own true)=some vs) (hr:C.pure f vs=some r):F2 B S w0 P o a m (.val r):=by
 obtain ⟨xs,ts,m6,he⟩:=wO h;exact Zg hC hm hs he (λ w h=>qS m6 h) hv hr
theorem AbY {C:Cl} (hC:L8 P num C) (hm:D8 B S w0 m) (hs:FX B S m ρ a.eval) {f:Nat} {s8:List BL} (h:C4 P num o.op (.e8 f s8)=true) {r:AV} {n6:BD} (hr:C.kv f (s8.map ρ) m.own=some (r,n6)):F2 B S w0 P o a m (.fp r n6):=by
 obtain ⟨xs,ts,m6,he⟩:=Aof h;obtain ⟨hl,hx⟩:=bM hs he;have ji:(xs.map a.eval)=(xs.toList.map a.eval).toArray:=by cases xs;simp
 have gy:=hC.kv f (s8.map ρ) m.own r n6 hr B S w0 m (xs.toList.map a.eval) rfl hm (by simp [hl]) (λ j c v hc hv=>by
  rw[List.getElem?_map]at hc hv;cases nu:xs.toList[j]? with
  | none=>simp [nu]at hv
  | some x =>
   cases sw:s8[j]? with
   | none=>simp [sw]at hc
   | some y =>
    simp [nu]at hv;simp [sw]at hc;subst hv hc;exact hx j x y nu sw)
 intro K Q hK;unfold Oper.wp;rw[qS m6 (hC.tp f _ _ _ hr _ _),ji];refine Calls.mono gy λ e w' ⟨u,m',jy,hw,k9,oy,je,ae⟩ => ?_
 subst jy hw;exact hK u m' k9 oy je ae
theorem Ai8 (hm:D8 B S w0 m) {w':World} (hb:Below m.w.heap.size m.w w') (s:Nat) (b:HU) (gg:Option Nat) (hz : ∀ x∈b.es,x.length=b.a7)
  (hg:match gg with|none=>b.es=[]|some g=>m.w.heap.size<=g /\ ∃ arr e,w'.heap[g]? = some (.cells arr e (0,0)) /\ ∀ i cs,b.es[i]? = some cs -> ∀ j c,cs[j]? = some c -> ∃ u,arr[i*b.a7+j]? = some u/\CC B S ⟨j6 m s gg,m.own.put s ((m.own s).new b),w'⟩ c u) :
  D8 B S w0 ⟨j6 m s gg,m.own.put s ((m.own s).new b),w'⟩/\HC B S m ⟨j6 m s gg,m.own.put s ((m.own s).new b),w'⟩:=by
 have hν : ∀ s' t',live m s' t'->j6 m s gg s' t'=m.ν s' t':=λ s' t' hl=>by
  unfold j6;rw[if_neg];rintro ⟨rfl,rfl⟩
  exact pX hm _ hl
 have ud : ∀ g,gg=some g->m.w.heap.size<=g:=λ g e=>by subst e;exact hg.1
 have he:HC B S m ⟨j6 m s gg,m.own.put s ((m.own s).new b),w'⟩:=by
  refine bW hm hb.size (λ k hk _=>hb.block k hk) (λ s' => ?_) (λ s' t' b' ht m4 => ?_) (λ s' t' g hl dz l7 => ?_)
  ·rw[QL];split
   ·rename_i h;subst h;omega
   ·exact Nat.le_refl _
  ·rw[K4]at m4
   rw[if_neg (by rintro ⟨rfl,rfl⟩;omega)]at m4;refine ⟨b',m4,rfl,hν s' t' ⟨b',m4⟩,λ g ar e' dz ha=>⟨ar,?_,rfl⟩⟩;exact (hb.block g (Array.getElem?_eq_some_iff.1 ha).1).trans ha
  ·obtain ⟨b',m4⟩:=hl
   rw[K4]at m4;by_cases h:s'=s/\t'=m.own.j5 s
   ·simp only[j6,if_pos h]at dz
    have:=ud g dz
    omega
   ·rw[if_neg h]at m4
    exact ⟨s',t',⟨b',m4⟩,by rw[<-hν s' t' ⟨b',m4⟩];exact dz⟩
 refine ⟨⟨hm.below.trans (hb.mono hm.size),Nat.le_trans hm.size hb.size,λ s' t' ht => ?_,λ s' t' b' m4 => ?_,λ s1 t1 s2 t2 b1 b2 g h1 h2 g1 g2 => ?_⟩,he⟩
 ·rw[QL]at ht
  rw[K4,if_neg]
  ·refine hm.fresh s' t' ?_
   split at ht
   ·rename_i h;subst h;omega
   ·exact ht
  ·rintro ⟨rfl,rfl⟩
   simp at ht;omega
 ·rw[K4]at m4
  by_cases h:s'=s/\t'=m.own.j5 s
  ·rw[if_pos h]at m4
   obtain rfl:b=b':=by simpa using m4
   refine ⟨hz,?_⟩;show match j6 m s gg s' t' with|none=>_|some g=>_
   rw[show j6 m s gg s' t'=gg by simp [j6,h]];cases gg with
   | none=>exact hg
   | some g=>exact ⟨Nat.le_trans hm.size hg.1,hg.2⟩
  ·rw[if_neg h]at m4
   obtain ⟨h1,h2⟩:=hm.c9 s' t' b' m4;refine ⟨h1,?_⟩;show match j6 m s gg s' t' with|none=>_|some g=>_
   rw[hν s' t' ⟨b',m4⟩];cases hv:m.ν s' t' with
   | none=>rw[hv]at h2;exact h2
   | some g =>
    rw[hv]at h2;obtain ⟨h3,ar,e',h4,h5⟩:=h2;refine ⟨h3,ar,e',(hb.block g (Array.getElem?_eq_some_iff.1 h4).1).trans h4,λ i cs hi j c hj => ?_⟩;obtain ⟨u,hu,aj⟩:=h5 i cs hi j c hj;exact ⟨u,hu,he.cc aj⟩
 ·rw[K4]at h1 h2
  have lt : ∀ s' t' b',m.own.get s' t'=some b'->j6 m s gg s' t'=some g->g<m.w.heap.size:=λ s' t' b' m4 dz=>by
   rw[hν s' t' ⟨b',m4⟩]at dz;obtain ⟨_,ar,e',h4⟩:=hm.ge ⟨b',m4⟩ dz;exact (Array.getElem?_eq_some_iff.1 h4).1
  have at_ : ∀ s' t',s'=s/\t'=m.own.j5 s->j6 m s gg s' t'=some g->m.w.heap.size<=g:=λ s' t' h dz=>by
   simp only[j6,if_pos h]at dz;exact ud g dz
  by_cases p1:s1=s/\t1=m.own.j5 s<;>by_cases p2:s2=s/\t2=m.own.j5 s
  ·exact ⟨p1.1.trans p2.1.symm,p1.2.trans p2.2.symm⟩
  ·rw[if_neg p2]at h2
   have:=lt s2 t2 b2 h2 g2
   have:=at_ s1 t1 p1 g1
   omega
  ·rw[if_neg p1]at h1
   have:=lt s1 t1 b1 h1 g1
   have:=at_ s2 t2 p2 g2
   omega
  ·rw[if_neg p1]at h1
   rw[if_neg p2]at h2;exact hm.inj s1 t1 s2 t2 b1 b2 g h1 h2 (by rw[<-hν s1 t1 ⟨b1,h1⟩];exact g1) (by rw[<-hν s2 t2 ⟨b2,h2⟩];exact g2)
theorem AkO {C:Cl} (hC:L8 P num C) (hm:D8 B S w0 m) (hs:FX B S m ρ a.eval) {s f:Nat} {s8:List BL} (h:C4 P num o.op (.q6 s f s8)=true) {vs:List AV} (hv:(s8.map ρ).mapM (XY m.own true)=some vs) {z:Nat} {es:List (List AV)} (hr:W4 (C.kv f vs BD.emp)=some (z,es)) :
  F2 B S w0 P o a m (.new s ⟨z,es⟩ (λ t => .row s t z 0 es.length)):=by
 obtain ⟨xs,ts,m6,he⟩:=wO (Aoh h);obtain ⟨s0,t0,o',b0,Lm,o4,rfl,o6⟩:=Ai7 hr;obtain ⟨hl,hx⟩:=bM hs he;obtain ⟨jg,nn⟩:=YU _ hv;have ji:(xs.map a.eval)=(xs.toList.map a.eval).toArray:=by cases xs;simp
 have nj : ∀ (j:Nat) (c:AV) (v:Value),vs[j]? = some c->(xs.toList.map a.eval)[j]? = some v->CV m.w.heap.size (safe B S m false) ⟨λ_ _=>none,BD.emp,m.w⟩ c v:=by
  intro j c v hc vi;rw[List.getElem?_map]at vi;cases nu:xs.toList[j]? with
  | none=>simp [nu]at vi
  | some x =>
   simp [nu]at vi;subst vi;have gu:j<s8.length:=by rw[<-hl];exact (zS nu).1
   obtain ⟨y,hy,ka⟩:=nn j (ρ s8[j]) (by rw[List.getElem?_map,zE gu];rfl);rw[hc]at hy;obtain rfl:c=y:=by simpa using hy
   have ae:=hx j x s8[j] nu (zE gu);have hN:(ρ s8[j] = .nil/\c = .nil)\/F8 m.own true (ρ s8[j])=some c:=by
    cases e:ρ s8[j] with
    | nil=>rw[e]at ka;exact .inl ⟨rfl,(Option.some.inj ka).symm⟩
    | _=>rw[e]at ka;exact .inr ka
   rcases hN with ⟨e1,rfl⟩|ka
   ·rw[e1]at ae
    rw[eG ae];exact .ca (.one .nil)
   have Fp:=rD hm true (safe m.w.heap.size (safe B S m false) ⟨λ_ _=>none,BD.emp,m.w⟩) (λ l b hb Ck=>by
    cases l with
    | false=>exact .inl ⟨Ck,hb⟩
    | true=>exact .inr (.inr ⟨rfl,hb⟩)) (λ s t g ib hg=>by
    obtain ⟨_,arr,e,hh⟩:=hm.ge ib hg;exact .inr (.inr ⟨rfl,(Array.getElem?_eq_some_iff.1 hh).1⟩)) ka ae
   exact .ca (DA.ca (m:=⟨λ_ _=>none,BD.emp,m.w⟩) Fp)
 have hm0:D8 m.w.heap.size (safe B S m false) m.w ⟨λ_ _=>none,BD.emp,m.w⟩:=⟨Below.refl _ _,Nat.le_refl _,λ_ _ _=>rfl,(λ s t b h=>by cases h),(λ_ _ _ _ _ _ _ h=>by cases h)⟩;have gy:=hC.kv f vs BD.emp _ o' Lm m.w.heap.size (safe B S m false) m.w ⟨λ_ _=>none,BD.emp,m.w⟩ (xs.toList.map a.eval) rfl hm0 (by rw[<-jg];simp [hl]) nj;intro K Q hK;unfold Oper.wp;rw[qS m6 (hC.tp f _ _ _ Lm _ _),ji];refine Calls.mono gy λ e w' ⟨u,m',jy,hw,k9,oy,AxS,ae⟩ => ?_
 subst jy hw;have lz:Below m.w.heap.size m.w m'.w:=oy.below;rw[<-k9]at o4;obtain ⟨hz,qe⟩:=oy.c9 s0 t0 b0 o4;obtain ⟨ad,cap,rfl,ht,ff,ke,ha,hb⟩:=bH ae;obtain ⟨ml,fj⟩:=hb b0 o4;subst ml;have hold : ∀ s t g,live m s t->m.ν s t=some g->g<m.w.heap.size:=λ s t g ib hg=>by
  obtain ⟨_,arr,e,hh⟩:=hm.ge ib hg;exact (Array.getElem?_eq_some_iff.1 hh).1
 have Gd : ∀ s' t' g,live ⟨j6 m s (m'.ν s0 t0),m.own.put s ((m.own s).new ⟨b0.a7,b0.es⟩),m'.w⟩ s' t'->j6 m s (m'.ν s0 t0) s' t'=some g->g<m.w.heap.size\/m'.ν s0 t0=some g:=λ s' t' g ib hg=>by
  obtain ⟨b',m4⟩:=ib;rw[K4]at m4;by_cases j8:s'=s/\t'=m.own.j5 s
  ·simp only[j6,if_pos j8]at hg
   exact Or.inr hg
  ·rw[if_neg j8]at m4
   simp only[j6,if_neg j8]at hg;exact Or.inl (hold s' t' g ⟨b',m4⟩ hg)
 have hR : ∀ b,b<m'.w.heap.size->safe m.w.heap.size (safe B S m false) m' false b->safe B S ⟨j6 m s (m'.ν s0 t0),m.own.put s ((m.own s).new ⟨b0.a7,b0.es⟩),m'.w⟩ false b:=λ b Hz Ck=>by
  rcases Ck with ⟨h1,h2⟩|⟨h1,h2⟩|⟨h1,_⟩
  ·rcases h1 with h1|⟨h1,h3⟩|⟨h1,_⟩
   ·exact .inl h1
   ·refine .inr (.inl ⟨h1,λ s' t' ib hg => ?_⟩)
    obtain ⟨b',m4⟩:=Option.isSome_iff_exists.1 ib;have z7:=m4;rw[K4]at z7;by_cases j8:s'=s/\t'=m.own.j5 s
    ·simp only[j6,if_pos j8]at hg
     rw[hg]at qe;have:=qe.1
     omega
    ·rw[if_neg j8]at z7
     simp only[j6,if_neg j8]at hg;exact h3 s' t' (by rw[z7];rfl) hg
   ·cases h1
  ·refine .inr (.inl ⟨Nat.le_trans hm.size h1,λ s' t' ib hg => ?_⟩)
   rcases Gd s' t' b (Option.isSome_iff_exists.1 ib) hg with h3|h3
   ·omega
   ·exact h2 s0 t0 (by rw[o4];rfl) h3
  ·cases h1
 obtain ⟨oa,je⟩:=Ai8 hm lz s ⟨b0.a7,b0.es⟩ (m'.ν s0 t0) hz (by
  cases hν:m'.ν s0 t0 with
  | none=>rw[hν]at qe;exact qe
  | some g =>
   rw[hν]at qe hR;obtain ⟨h1,arr,e,h2,h3⟩:=qe;refine ⟨h1,arr,e,h2,λ i cs hi j c hj => ?_⟩;obtain ⟨u,hu,aj⟩:=h3 i cs hi j c hj;refine ⟨u,hu,.rd ?_⟩;have yp:=W7 (nR o6 i cs hi) j c hj;have oz:Rd m'.w (safe m.w.heap.size (safe B S m false) m') c u:=by
    cases aj with
    | rd h=>exact h
    | _=>unfold B3 at yp;exact yp.elim
   exact oz.clean hR yp)
 refine hK _ ⟨j6 m s (m'.ν s0 t0),m.own.put s ((m.own s).new ⟨b0.a7,b0.es⟩),m'.w⟩ rfl oa je (.ca (.one (.row s (m.own.j5 s) b0.a7 0 b0.es.length ad cap (by show m.own.j5 s<BD.j5 (m.own.put s _) s;rw[QL,if_pos rfl];omega) ff ke ha λ b1 Br => ?_)));have Kp:(m.own.put s ((m.own s).new ⟨b0.a7,b0.es⟩)).get s (m.own.j5 s)=some b1:=Br;rw[K4,if_pos ⟨rfl,rfl⟩]at Kp;obtain rfl:=Option.some.inj Kp;refine ⟨rfl,?_⟩;rcases fj with h0|⟨g,arr,e,hg,nc,hh,hle⟩
 ·exact .inl h0
 ·exact .inr ⟨g,arr,e,by simp [j6,hg],nc,hh,hle⟩
theorem Zy {p:Bool} {f g:Nat} {cs:List AV} {v:Value} (h:CV B S m (.fn p f g cs) v) (hp:p=false\/cs=[]) : ∃ vs:List Value,v = .func (.func g) #[] vs.toArray/\CL B S m cs vs:=by
 cases h with
 | ca h=>cases h with
  | one h=>cases h with
   | rd h=>cases h
  | fn p f g cs vs hp h=>exact ⟨vs,rfl,h⟩
  | yf f g cs vs m7 h =>
   rcases hp with hp|hp
   ·cases hp
   ·exact absurd hp m7
theorem Ake {f g:Nat} {cs:List AV} {v:Value} (h:CV B S m (.fn true f g cs) v) (m7:cs≠[]) : ∃ vs:List Value,v = .func (.func g) #[.agg vs.toArray] #[]/\CL B S m cs vs:=by
 cases h with
 | ca h=>cases h with
  | one h=>cases h with
   | rd h=>cases h
  | fn p f g cs vs hp h=>exact absurd (hp rfl) m7
  | yf f g cs vs m7 h=>exact ⟨vs,rfl,h⟩
theorem AfI {f:Nat} {x:Operand} {xs:Array Operand} {ts:Array TypeId} {vs:Array Value} (m6:o.op = .call ⟨.value x,xs,ts⟩) (hx:a.eval x = .func (.func f) #[] vs) {w:World} (h:(callFunc f (xs.map a.eval++vs)).run P w = .ok (.enter f (xs.map a.eval++vs)) w):(execOp a.eval o).run P w = .ok (.enter f (xs.map a.eval++vs)) w:=by
 simp [execOp,m6,resolve,Deferred.ofValue,hx,invoke];exact h
theorem AkP {C:Cl} (hC:L8 P num C) (hm:D8 B S w0 m) (hs:FX B S m ρ a.eval) {x':BL} {s8:List BL} (h:C4 P num o.op (.q8 x' s8)=true) {f:Nat} {cs:List AV} (hf:ρ x' = .fn false f (num f) cs) {r:AV} {n6:BD} (hr:C.kv f (s8.map ρ++cs) m.own=some (r,n6)):F2 B S w0 P o a m (.fp r n6):=by
 obtain ⟨x,xs,ts,m6,oi,he⟩:=wV h;obtain ⟨hl,hx⟩:=bM hs he;obtain ⟨vs,hv,o6⟩:=Zy (hf ▸ hs x x' oi) (.inl rfl);have ji:(xs.map a.eval++vs.toArray)=(xs.toList.map a.eval++vs).toArray:=by cases xs;simp
 have gy:=hC.kv f (s8.map ρ++cs) m.own r n6 hr B S w0 m (xs.toList.map a.eval++vs) rfl hm (by simp [hl,o6.1]) (λ j c v hc hv=>by
  by_cases hj:j<s8.length
  ·rw[List.getElem?_append_left (by simpa using hj),List.getElem?_map]at hc
   rw[List.getElem?_append_left (by simpa [hl] using hj),List.getElem?_map]at hv;have Ih:j<xs.toList.length:=by rw[hl];exact hj
   rw[zE hj]at hc;rw[zE Ih]at hv;simp only[Option.map_some,Option.some.injEq]at hc hv;subst hc hv;exact hx j _ _ (zE Ih) (zE hj)
  ·rw[List.getElem?_append_right (by simpa using hj),List.length_map]at hc
   rw[List.getElem?_append_right (by simpa [hl] using hj),List.length_map,hl]at hv;exact .ca (.one (o6.2 _ c v hc hv)))
 intro K Q hK;unfold Oper.wp;rw[AfI m6 hv (hC.tp f _ _ _ hr _ _),ji];refine Calls.mono gy λ e w' ⟨u,m',jy,hw,k9,oy,je,ae⟩ => ?_
 subst jy hw;exact hK u m' k9 oy je ae
theorem AkM {C:Cl} (hC:L8 P num C) (hm:D8 B S w0 m) (hs:FX B S m ρ a.eval) {x':BL} {s8:List BL} (h:C4 P num o.op (.q8 x' s8)=true) {f:Nat} (hf:ρ x' = .fn true f (num f) []) {vs:List AV} {r:AV} (hv:(s8.map ρ).mapM (F8 m.own true)=some vs) (hr:C.pure f vs=some r):F2 B S w0 P o a m (.val r):=by
 obtain ⟨x,xs,ts,m6,oi,he⟩:=wV h;obtain ⟨us,hu,o6⟩:=Zy (hf ▸ hs x x' oi) (.inr rfl);have Hd:us=[]:=List.eq_nil_of_length_eq_zero (by rw[<-o6.1];rfl);subst Hd;refine Zg hC hm hs he (λ w h => ?_) hv hr;have:=AfI (P:=P) (w:=w) m6 hu (by simpa using h)
 simpa using this
theorem Aqj {f:Nat} {x:Operand} {xs:Array Operand} {ts:Array TypeId} {u:Value} (m6:o.op = .call ⟨.value x,xs,ts⟩) (hx:a.eval x = .func (.func f) #[u] #[]) {w:World} (h:(callFunc f (#[u]++xs.map a.eval)).run P w = .ok (.enter f (#[u]++xs.map a.eval)) w):(execOp a.eval o).run P w = .ok (.enter f (#[u]++xs.map a.eval)) w:=by
 simp [execOp,m6,resolve,Deferred.ofValue,hx,invoke];exact h
theorem AkL {C:Cl} (hC:L8 P num C) (hm:D8 B S w0 m) (hs:FX B S m ρ a.eval) {x':BL} {s8:List BL} (h:C4 P num o.op (.q8 x' s8)=true) {f:Nat} {c:AV} {cs:List AV} (hf:ρ x' = .fn true f (num f) (c::cs)) {vs:List AV} {r:AV} (hv:(AV.agg (c::cs)::s8.map ρ).mapM (F8 m.own true)=some vs) (hr:C.pure f vs=some r):F2 B S w0 P o a m (.val r):=by
 obtain ⟨x,xs,ts,m6,oi,he⟩:=wV h;obtain ⟨us,hu,o6⟩:=Ake (hf ▸ hs x x' oi) (by simp);obtain ⟨hl,hx⟩:=bM hs he;have ji:(#[Value.agg us.toArray]++xs.map a.eval)=(Value.agg us.toArray::xs.toList.map a.eval).toArray:=by cases xs;simp
 refine Zh hC hm (us:=Value.agg us.toArray::xs.toList.map a.eval) (as:=AV.agg (c::cs)::s8.map ρ) (by simp [hl]) (λ j v c' h1 h2 => ?_) (λ w h=>by
  rw[<-ji]at h ⊢;exact Aqj m6 hu h) hv hr
 cases j with
 | zero =>
  simp only[List.getElem?_cons_zero,Option.some.injEq]at h1 h2;subst h1 h2;exact .ca (.agg _ _ o6)
 | succ j =>
  rw[List.getElem?_cons_succ,List.getElem?_map]at h1 h2;cases nu:xs.toList[j]? with
  | none=>simp [nu]at h1
  | some x =>
   cases sw:s8[j]? with
   | none=>simp [sw]at h2
   | some y =>
    simp only[nu,sw,Option.map_some,Option.some.injEq]at h1 h2;subst h1 h2;exact hx j x y nu sw
theorem Rd.to1 {w:World} {R R':Bool->Nat->Prop} (hR : ∀ l b,b<w.heap.size->R l b -> ∀ l',R' l' b) {c:AV} {v:Value} (h:Rd w R c v) (hq:LJ c=true):Rd w R' (iD c) v:=by
 cases h with
 | int k n=>exact .int k n
 | bool b=>exact .bool b
 | str s=>simp [LJ]at hq
 | om=>simp [LJ]at hq
 | emp=>simp [LJ]at hq
 | my l a cap=>exact .my false a cap
 | sl l es b o a7 cap u m7 hp h1 da hz o6 hr =>
  obtain ⟨e,c,he,jb⟩:=kF m7 hp hz;have hb:b<w.heap.size:=bB (o6 0 e he 0 c jb);exact .sl false es b o a7 cap u m7 hp (hR l b hb h1 false) da hz o6 λ i e he j c hj=>(hr i e he j c hj).mono (λ l b hb h=>hR l b hb h l) (λ_ _ _ _=>rfl)
theorem Rd.Dg {w:World} {R R':Bool->Nat->Prop} (hR : ∀ b,b<w.heap.size->R false b->R' true b) {c:AV} {v:Value} (h:Rd w R c v) (hc:B3 c) (hf:iN c):Rd w R' (kM c) v:=by
 cases h with
 | int k n=>exact .int k n
 | bool b=>exact .bool b
 | str s=>exact hf.elim
 | om=>exact hf.elim
 | emp=>exact hf.elim
 | my l a cap=>exact .my true a cap
 | sl l es b o a7 cap u m7 hp h1 da hz o6 hr =>
  unfold B3 at hc;obtain ⟨rfl,hc⟩:=hc;obtain ⟨e,c,he,jb⟩:=kF m7 hp hz;have hb:b<w.heap.size:=bB (o6 0 e he 0 c jb);refine .sl true es b o a7 cap u m7 hp (hR b hb h1) da hz o6 λ i e he j c hj => ?_
  have Vm:=hf e (zM he) c (zM hj);have Gw:=hr i e he j c hj;generalize u i j=vv at Gw ⊢;cases Gw<;>first|exact .int _ _|exact .bool _|(simp [xS]at Vm)
theorem wZ : ∀ l:List AV,MV l=l.map LQ
 | []=>by simp [MV]
 | c::r=>by rw[MV,wZ r];rfl
theorem Aes : ∀ l:List (List AV),O7 l=l.map λ e=>e.map LQ
 | []=>by simp [O7]
 | c::r=>by rw[O7,Aes r,wZ];rfl
theorem Rd.Dh {w:World} {R R':Bool->Nat->Prop} (hR : ∀ b,b<w.heap.size->R false b->R' true b) {c:AV} {v:Value} (h:Rd w R c v):B3 c->Rd w R' (LQ c) v:=by
 induction h with
 | int k n=>intro _;exact .int k n
 | bool b=>intro _;exact .bool b
 | str s=>intro _;exact .str s
 | om=>intro _;exact .om
 | emp b a cap h=>intro _;exact .emp b a cap h
 | my l a cap=>intro _;exact .my true a cap
 | sl l es b o a7 cap u m7 hp h1 da hz o6 hr ih =>
  intro hc;unfold B3 at hc;obtain ⟨rfl,hc⟩:=hc;obtain ⟨e,c,he,jb⟩:=kF m7 hp hz;have hb:b<w.heap.size:=bB (o6 0 e he 0 c jb);have nm : ∀ (i:Nat) (e':List AV),(es.map λ e:List AV=>e.map LQ)[i]? = some e' -> ∃ e,es[i]? = some e/\e'=e.map LQ:=λ i e' h=>by
   rw[List.getElem?_map]at h;cases hi:es[i]? with
   | none=>simp [hi]at h
   | some e=>exact ⟨e,rfl,by simpa [hi] using h.symm⟩
  have Kn : ∀ (e:List AV) (j:Nat) (c':AV),(e.map LQ)[j]? = some c' -> ∃ c,e[j]? = some c/\c'=LQ c:=λ e j c' h=>by
   rw[List.getElem?_map]at h;cases hi:e[j]? with
   | none=>simp [hi]at h
   | some c=>exact ⟨c,rfl,by simpa [hi] using h.symm⟩
  have key:=Rd.sl (w:=w) (R:=R') true (es.map λ e:List AV=>e.map LQ) b o a7 cap u (by simpa using m7) hp (hR b hb h1) (by simpa using da)
   (λ e' jy=>by
    obtain ⟨e,he,rfl⟩:=List.mem_map.1 jy;rw[List.length_map];exact hz e he)
   (λ i e' hi j c' hj=>by
    obtain ⟨e,he,rfl⟩:=nm i e' hi;obtain ⟨c,Ia,rfl⟩:=Kn e j c' hj;exact o6 i e he j c Ia)
   (λ i e' hi j c' hj=>by
    obtain ⟨e,he,rfl⟩:=nm i e' hi;obtain ⟨c,Ia,rfl⟩:=Kn e j c' hj;exact ih i e he j c Ia (W7 (nR hc i e he) j c Ia))
  rw[List.length_map]at key;rw[LQ,Aes];exact key
theorem AkN {C:Cl} (hC:L8 P num C) (hm:D8 B S w0 m) (hs:FX B S m ρ a.eval) {f:Nat} {s8:List BL} (h:C4 P num o.op (.n9 f s8)=true) (hq:(s8.map ρ).all dq=true) {r:AV} (hr:C.pure f ((s8.map ρ).map Bd)=some r) (Uh:NN r\/aO r):F2 B S w0 P o a m (.val (RP r)):=by
 obtain ⟨xs,ts,m6,he⟩:=wO (Aog h);obtain ⟨hl,hx⟩:=bM hs he;have ji:(xs.map a.eval)=(xs.toList.map a.eval).toArray:=by cases xs;simp
 have hR : ∀ l b,b<m.w.heap.size->safe B S m l b -> ∀ l',safe m.w.heap.size (safe B S m true) ⟨λ_ _=>none,BD.emp,m.w⟩ l' b:=λ l b hb h l' => .inl ⟨zB h,hb⟩
 have hcell : ∀ (c:AV) (v:Value),CC B S m c v->LJ c=true->Rd m.w (safe m.w.heap.size (safe B S m true) ⟨λ_ _=>none,BD.emp,m.w⟩) (iD c) v:=λ c v hc hd=>by
  cases hc with
  | rd hr=>exact hr.to1 hR hd
  | nil=>exact .my false none 0
  | row=>simp [LJ]at hd
  | ptr=>simp [LJ]at hd
  | y9=>simp [LJ]at hd
 have nj : ∀ (j:Nat) (c:AV) (v:Value),((s8.map ρ).map Bd)[j]? = some c->(xs.toList.map a.eval)[j]? = some v->CA m.w.heap.size (safe B S m true) ⟨λ_ _=>none,BD.emp,m.w⟩ c v:=by
  intro j c v hc vi;rw[List.getElem?_map,List.getElem?_map]at hc;rw[List.getElem?_map]at vi;cases nu:xs.toList[j]? with
  | none=>simp [nu]at vi
  | some x =>
   cases sw:s8[j]? with
   | none=>simp [sw]at hc
   | some y =>
    simp [nu]at vi;simp [sw]at hc;subst vi hc;have ae:=hx j x y nu sw;have hd:dq (ρ y)=true:=List.all_eq_true.1 hq _ (List.mem_map_of_mem (zM sw));generalize ρ y=cy at ae hd ⊢;generalize a.eval x=vx at ae ⊢;cases ae with
    | any=>simp [dq,LJ]at hd
    | g8=>simp [dq,LJ]at hd
    | ca vy =>
     cases vy with
     | one Bu =>
      have qi:LJ cy=true/\Bd cy=iD cy:=by
       cases Bu with
       | rd hr=>cases hr<;>exact ⟨hd,rfl⟩
       | _=>exact ⟨hd,rfl⟩
      rw[qi.2];exact .one (.rd (hcell _ _ Bu qi.1))
     | agg cs vs o6 =>
      refine .agg (cs.map iD) vs ⟨by simpa using o6.1,λ k c' v' y5 kj => ?_⟩;rw[List.getElem?_map]at y5;cases tz:cs[k]? with
      | none=>simp [tz]at y5
      | some c0 =>
       simp [tz]at y5;subst y5;exact .rd (hcell c0 v' (o6.2 k c0 v' tz kj) (List.all_eq_true.1 hd _ (zM tz)))
     | fn=>simp [dq,LJ]at hd
     | yf=>simp [dq,LJ]at hd
 have gy:=hC.pure f _ r hr (safe B S m true) m.w (xs.toList.map a.eval) (by simp [hl]) nj;intro K Q hK;unfold Oper.wp;rw[qS m6 (hC.ye f _ r hr _ _),ji];refine Calls.mono gy λ e w' ⟨u,jy,lz,ae,o6⟩ => ?_
 subst jy;obtain ⟨oy,je⟩:=grow hm lz;refine hK u ⟨m.ν,m.own,w'⟩ rfl oy je ?_;have lu : ∀ b,b<w'.heap.size->safe m.w.heap.size (safe B S m true) ⟨λ_ _=>none,BD.emp,w'⟩ false b->safe B S ⟨m.ν,m.own,w'⟩ true b:=λ b hb Ck=>by
  rcases Ck with ⟨h1,h2⟩|⟨h1,_⟩|⟨h1,_⟩
  ·exact je.En true b h2 h1
  ·refine .inr (.inl ⟨Nat.le_trans hm.size h1,λ s t ib hg => ?_⟩)
   obtain ⟨b',m4⟩:=Option.isSome_iff_exists.1 ib;obtain ⟨_,arr,e,hh⟩:=hm.ge ⟨b',m4⟩ hg;have:=(Array.getElem?_eq_some_iff.1 hh).1
   omega
  ·cases h1
 by_cases jf:NN r
 ·rw[xB jf]
  rcases tT ae o6 with Fp|⟨cs,vs,rfl,_⟩
  ·rcases Fp with oz|⟨cs,vs,rfl,rfl,jg,hh⟩
   ·have e1:Dc r=kM r/\iN r:=by cases oz<;>exact ⟨rfl,jf⟩
    rw[show FB.valOf (.val (Dc r)) m.own=Dc r from rfl,e1.1];exact .ca (.one (.rd (oz.Dg lu o6 e1.2)))
   ·unfold B3 at o6
    refine .ca (.agg (cs.map kM) vs ⟨by simpa using jg,λ k c' v' y5 kj => ?_⟩);rw[List.getElem?_map]at y5;cases tz:cs[k]? with
    | none=>simp [tz]at y5
    | some c0 =>
     simp [tz]at y5;subst y5;exact .rd ((hh k c0 v' tz kj).Dg lu (W7 o6 k c0 tz) (jf c0 (zM tz)))
  ·exact jf.elim
 ·rw[xA jf]
  have hd:=Uh.resolve_left jf;rcases tT ae o6 with Fp|⟨cs,vs,rfl,_⟩
  ·rcases Fp with oz|⟨cs,vs,rfl,rfl,jg,hh⟩
   ·have e1:P0 r=LQ r:=by cases oz<;>rfl
    rw[show FB.valOf (.val (P0 r)) m.own=P0 r from rfl,e1];exact .ca (.one (.rd (oz.Dh lu o6)))
   ·unfold B3 at o6
    rw[show FB.valOf (.val (P0 (.agg cs))) m.own = .agg (MV cs) from rfl,wZ];refine .ca (.agg (cs.map LQ) vs ⟨by simpa using jg,λ k c' v' y5 kj => ?_⟩);rw[List.getElem?_map]at y5;cases tz:cs[k]? with
    | none=>simp [tz]at y5
    | some c0 =>
     simp [tz]at y5;subst y5;exact .rd ((hh k c0 v' tz kj).Dh lu (W7 o6 k c0 tz))
  ·exact hd.elim
end
end Go.b8

namespace Go.b8
open Go.RowKit
section
variable {B:Nat} {S:Nat->Prop} {w0:World} {m:M}
variable {P:Program} {num:Nat->Nat} {o:Oper} {a:Act} {ρ:BL->AV} {C:Cl} {b7:List Nat}
theorem Ak9 (hm:D8 B S w0 m) (hs:FX B S m ρ a.eval) {mx:Bool} {s8:List BL} (h:C4 P num o.op (.mm mx s8)=true) {v r:AV} {l:List AV} (hx:s8.map ρ=v::l) (hv:P2 mx v l=some r):F2 B S w0 P o a m (.val r):=by
 by_cases hi : ∃ k n,v = .int k n
 ·exact Ak8 hm hs h hx hv hi
 ·cases l with
  | cons u q =>
   simp only[P2]at hv;exfalso;cases v<;>first|(exact hi ⟨_,_,rfl⟩)|(simp [YV]at hv)
  | nil =>
   simp only[P2,Option.some.injEq]at hv;subst hv;obtain ⟨xs,ts,m6,he⟩:=Ad7 h;cases s8 with
   | nil=>simp at hx
   | cons y yr =>
    simp only[List.map_cons,List.cons.injEq,List.map_eq_nil_iff]at hx;obtain ⟨rfl,rfl⟩:=hx;obtain ⟨xl⟩:=xs;cases xl with
    | nil=>simp [IA]at he
    | cons x xr =>
     simp only[IA,Bool.and_eq_true]at he;cases xr with
     | cons=>simp [IA]at he
     | nil =>
      refine IU hm (u:=a.eval x) ?_ (hs x y he.1);cases mx<;>simp [execOp,m6,resolve,invoke,builtin,Builtin.min_,Builtin.max_]
theorem AdI (o:BD) (l:List Nat) (s t:Nat) (b:HU) (h:(o.o5 l).get s t=some b):o.get s t=some b:=by
 induction l with
 | nil=>exact h
 | cons x r ih =>
  unfold BD.get BD.o5 at h;by_cases hs:s=x
  ·simp [hs]at h
  ·simp only[if_neg hs]at h
   exact ih h
theorem AoB {o:BD} {l:List Nat} {s t i j n:Nat} {cs:List AV} (h:(o.o5 l).uf s t i j n=some cs):o.uf s t i j n=some cs:=by
 unfold BD.uf at *;cases hg:(o.o5 l).get s t with
 | none=>simp [hg]at h
 | some b =>
  rw[AdI o l s t b hg];simpa [hg] using h
theorem AlC {o:BD} {l:List Nat} {v:AV} {es:List (List AV)} (h:IM (o.o5 l) v=some es):IM o v=some es:=by
 cases v with
 | dc v=>cases v<;>exact h
 | row s t z off len =>
  simp only[IM]at h ⊢;cases hg:(o.o5 l).get s t with
  | none=>simp [hg]at h
  | some b =>
   rw[AdI o l s t b hg];simpa [hg] using h
 | _=>exact h
theorem fU {α β:Type} {f g:α->Option β} (hfg : ∀ x y,f x=some y->g x=some y) : ∀ {l:List α} {l':List β},l.mapM f=some l'->l.mapM g=some l'
 | [],l',h=>by simpa using h
 | x::r,l',h=>by
  simp only[List.mapM_cons,Option.bind_eq_bind,Option.pure_def]at h ⊢;cases hx:f x with
  | none=>simp [hx]at h
  | some y =>
   cases hr:r.mapM f with
   | none=>simp [hx,hr]at h
   | some r' =>
    simp [hx,hr]at h;simp [hfg x y hx,fU hfg hr,h]
theorem zP (o:BD) (l:List Nat) (b:Bool) : ∀ (d:Nat) (c c':AV),snap (o.o5 l) b d c=some c'->snap o b d c=some c'
 | 0,c,c',h=>by cases c<;>simp_all [snap]
 | d+1,c,c',h=>by
  cases c<;>first|(simp_all [snap];done)|skip
  rename_i s t z off len;simp only[snap]at h ⊢;cases he:IM (o.o5 l) (.row s t z off len) with
  | none=>simp [he]at h
  | some es =>
   simp only[he]at h;rw[AlC he];simp only[Option.map_eq_some_iff]at h ⊢;obtain ⟨es',h1,h2⟩:=h;exact ⟨es',fU (λ x y hx=>fU (zP o l b d) hx) h1,h2⟩
theorem Af6 (o:BD) (l:List Nat) (b:Bool) (c c':AV) (h:F8 (o.o5 l) b c=some c'):F8 o b c=some c':=by
 cases c<;>first|exact zP o l b 6 _ _ h|skip
 simp only[F8,Option.map_eq_some_iff]at h ⊢;obtain ⟨cs,h1,h2⟩:=h;exact ⟨cs,fU (zP o l b 6) h1,h2⟩
theorem AqH (o:BD) (l:List Nat) (b:Bool) (c c':AV) (h:XY (o.o5 l) b c=some c'):XY o b c=some c':=by
 rcases Classical.em (c = .nil) with rfl|hc
 ·exact h
 ·have e : ∀ o:BD,XY o b c=F8 o b c:=λ o=>by cases c<;>first|rfl|exact (hc rfl).elim
  rw[e]at h ⊢;exact Af6 o l b _ _ h
theorem AoR {o:BD} {l:List Nat} {b:Bool} {xs vs:List AV} (h:xs.mapM (XY (o.o5 l) b)=some vs):xs.mapM (XY o b)=some vs:=fU (AqH o l b) h
theorem AoP {o:BD} {l:List Nat} {b:Bool} {xs vs:List AV} (h:xs.mapM (F8 (o.o5 l) b)=some vs):xs.mapM (F8 o b)=some vs:=fU (Af6 o l b) h
theorem AqW {own n6:BD} {s t i j:Nat} {vs:List AV} (h:own.rk s t i j vs=some n6):own.put s (n6 s)=n6:=by
 unfold BD.rk at h;cases hg:own.get s t with
 | none=>simp [hg]at h
 | some b =>
  simp only[hg]at h;cases he:b.es[i]? with
  | none=>simp [he]at h
  | some cs =>
   simp only[he]at h;split at h
   ·obtain rfl:=Option.some.inj h
    rw[BD.l6]
   ·cases h
theorem AlB (hC:L8 P num C) (hm:D8 B S w0 m) (hs:FX B S m ρ a.eval) {Hh:H0} (k6:C4 P num o.op Hh=true) {E:FB} (h:e9 C b7 ρ m.own Hh=some E):F2 B S w0 P o a m E:=by
 cases Hh with
 | v3 x=>simp only[e9,Option.some.injEq]at h;subst h;exact Ala hm hs k6
 | bu s z=>simp only[e9,Option.some.injEq]at h;subst h;exact Alg hm k6
 | pick c x y =>
  simp only[e9]at h;split at h
  ·rename_i hc;simp only[Option.some.injEq]at h;subst h;exact Zf hm hs k6 hc
  ·rename_i hc;simp only[Option.some.injEq]at h;subst h;exact Zf hm hs k6 hc
  ·cases h
 | bin f x y =>
  simp only[e9]at h;split at h
  ·rename_i k n k' n' hx hy
   simp only[Option.map_eq_some_iff]at h;obtain ⟨v,hv,rfl⟩:=h;exact AkG hm hs k6 hx hy hv
  ·cases h
 | beq ne x y =>
  simp only[e9]at h;split at h
  ·rename_i b b' hx hy
   simp only[Option.some.injEq]at h;subst h;exact AkF hm hs k6 hx hy
  ·cases h
 | un f x =>
  simp only[e9,Option.map_eq_some_iff]at h;obtain ⟨v,hv,rfl⟩:=h;exact Alf hm hs k6 hv
 | conv k x =>
  simp only[e9]at h;split at h
  ·rename_i k' n hx
   simp only[Option.some.injEq]at h;subst h;exact AkQ hm hs k6 hx
  ·cases h
 | box s x =>
  simp only[e9]at h;split at h
  ·rename_i cs jc
   simp only[Option.some.injEq]at h;subst h;exact AkH hm hs k6 jc
  ·cases h
 | alloc s z=>simp only[e9,Option.some.injEq]at h;subst h;exact AkC hm k6
 | build z ps =>
  simp only[e9,Option.map_eq_some_iff]at h;obtain ⟨cs,jc,rfl⟩:=h;exact AkJ hm hs k6 jc
 | a8 s a7 ps =>
  simp only[e9]at h;split at h
  ·rename_i es mb
   split at h
   ·rename_i hz
    simp only[Option.some.injEq]at h;subst h;exact AkI hm hs k6 mb hz
   ·cases h
  ·cases h
 | k7 x off =>
  simp only[e9]at h;split at h
  ·rename_i s t i j hx
   simp only[Option.some.injEq]at h;subst h;exact AkX hm hs k6 hx
  ·rename_i cs hx
   simp only[Option.some.injEq]at h;subst h;exact AkW hm hs k6 hx
  ·cases h
 | rn x off n agg =>
  simp only[e9]at h;split at h
  ·rename_i cs hx
   split at h
   ·rename_i ds hp
    simp only[Option.map_eq_some_iff]at h;obtain ⟨v,hv,rfl⟩:=h;exact AkY hm hs k6 hx hp hv
   ·cases h
  ·cases h
 | v7 arr a7 x i =>
  simp only[e9]at h;split at h
  ·rename_i k n hi
   split at h
   ·rename_i len s t i' j hx
    split at h
    ·rename_i hn
     simp only[Option.some.injEq]at h;subst h;exact AkZ hm hs k6 hi hx hn.1 hn.2
    ·cases h
   ·rename_i len cs hx
    split at h
    ·rename_i hn
     simp only[Option.some.injEq]at h;subst h;exact Ak0 hm hs k6 hi hx hn.1 hn.2
    ·cases h
   ·rename_i s t z off len hx
    split at h
    ·rename_i hn
     simp only[Option.some.injEq]at h;subst h;exact Ak1 hm hs k6 hi hx hn.1 hn.2.1 hn.2.2
    ·cases h
   ·rename_i l es hx
    split at h
    ·rename_i h0
     split at h
     ·rename_i cs jc
      split at h
      ·rename_i hz
       simp only[Option.some.injEq]at h;subst h;exact Ak2 hm hs k6 hi hx h0 jc hz
      ·cases h
     ·cases h
    ·cases h
   ·cases h
  ·cases h
 | ld agg n x =>
  simp only[e9]at h;split at h
  ·rename_i s t i j hx
   split at h
   ·rename_i cs jc
    simp only[Option.map_eq_some_iff]at h;obtain ⟨v,hv,rfl⟩:=h;exact Ak4 hm hs k6 hx (AoB jc) hv
   ·cases h
  ·rename_i cs hx
   split at h
   ·rename_i ds hp
    simp only[Option.map_eq_some_iff]at h;obtain ⟨v,hv,rfl⟩:=h;exact Ak3 hm hs k6 hx hp hv
   ·cases h
  ·cases h
 | st n x v =>
  simp only[e9]at h;split at h
  ·rename_i s t i j vs hx ij
   split at h
   ·rename_i hn
    simp only[Option.map_eq_some_iff]at h;obtain ⟨n6,ho,rfl⟩:=h;exact Zj hm hs k6 hx ij hn ho
   ·cases h
  ·cases h
 | mk s a7 bytes zero l c =>
  simp only[e9]at h;split at h
  ·rename_i kl a' kc b' hl hc
   split at h
   ·rename_i hn
    simp only[Option.some.injEq]at h;subst h;exact Ak6 hm hs k6 hl hc hn.1 hn.2.1 hn.2.2.1 hn.2.2.2.1 hn.2.2.2.2
   ·cases h
  ·cases h
 | gn a7 x lo hi =>
  simp only[e9]at h;have bnd : ∀ (d:Nat) (y:Option BL) (q:Nat),(match y with|none=>some d|some o=>match ρ o with | .int _ n=>if 0<=n/\n<=d then some n.toNat else none|_=>none)=some q -> ∃ n:Int,MQ ρ d y=some n/\0<=n/\n<=d/\q=n.toNat:=λ d y q hq=>by
   cases y with
   | none=>simp only[Option.some.injEq]at hq;subst hq;exact ⟨d,rfl,by omega,by omega,by simp⟩
   | some y =>
    simp only at hq;cases hy:ρ y with
    | int k n =>
     simp only[hy]at hq;split at hq
     ·rename_i hn
      simp only[Option.some.injEq]at hq;subst hq;exact ⟨n,by simp [MQ,hy],hn.1,hn.2,rfl⟩
     ·cases hq
    | _=>simp [hy]at hq
  have Jp : ∀ (y:Option BL) (q:Nat),(match y with|none=>some 0|some o=>match ρ o with | .int _ n=>if 0<=n then some n.toNat else none|_=>none)=some q -> ∃ n:Int,MQ ρ 0 y=some n/\0<=n/\q=n.toNat:=λ y q hq=>by
   cases y with
   | none=>simp only[Option.some.injEq]at hq;subst hq;exact ⟨0,rfl,by omega,by simp⟩
   | some y =>
    simp only at hq;cases hy:ρ y with
    | int k n =>
     simp only[hy]at hq;split at hq
     ·rename_i hn
      simp only[Option.some.injEq]at hq;subst hq;exact ⟨n,by simp [MQ,hy],hn,rfl⟩
     ·cases hq
    | _=>simp [hy]at hq
  have Jq : ∀ (y:Option BL) (q:Nat),(match y with|none=>some 0|some o=>match ρ o with | .int _ n=>if n=0 then some 0 else none|_=>none)=some q->MQ ρ 0 y=some 0:=λ y q hq=>by
   cases y with
   | none=>rfl
   | some y =>
    simp only at hq;cases hy:ρ y with
    | int k n =>
     simp only[hy]at hq;split at hq
     ·rename_i hn
      subst hn;simp [MQ,hy]
     ·cases hq
    | _=>simp [hy]at hq
  split at h
  ·rename_i l es hx
   split at h
   ·rename_i q1 q2 h1 h2
    split at h
    ·rename_i hq
     simp only[Option.some.injEq]at h;subst h;obtain ⟨n1,b1,c1,rfl⟩:=Jp _ _ h1;obtain ⟨n2,b2,c2,c3,rfl⟩:=bnd _ _ _ h2;exact Ale hm hs k6 hx b1 b2 c1 (by omega) c3 hq.2
    ·cases h
   ·cases h
  ·rename_i hx
   split at h
   ·rename_i q1 q2 h1 h2
    simp only[Option.some.injEq]at h;subst h;exact Alc hm hs k6 hx (Jq _ _ h1) (Jq _ _ h2)
   ·cases h
  ·rename_i s t z off len hx
   split at h
   ·rename_i q1 q2 h1 h2
    split at h
    ·rename_i hq
     simp only[Option.some.injEq]at h;subst h;obtain ⟨n1,b1,c1,rfl⟩:=Jp _ _ h1;obtain ⟨n2,b2,c2,c3,rfl⟩:=bnd _ _ _ h2;exact Ald hm hs k6 hx b1 b2 c1 (by omega) c3 hq.2
    ·cases h
   ·cases h
  ·cases h
 | ext x i =>
  simp only[e9]at h;split at h
  ·rename_i vs hx
   simp only[Option.map_eq_some_iff]at h;obtain ⟨v,hv,rfl⟩:=h;exact AkV hm hs k6 hx hv
  ·cases h
 | len x =>
  simp only[e9]at h;split at h
  ·rename_i n hn
   simp only[Option.some.injEq]at h;subst h;exact Ak5 hm hs k6 hn
  ·cases h
 | mm mx xs =>
  simp only[e9]at h;split at h
  ·cases h
  ·rename_i v r hx
   simp only[Option.map_eq_some_iff]at h;obtain ⟨q,hq,rfl⟩:=h;exact Ak9 hm hs k6 hx hq
 | app s a7 bytes x y =>
  simp only[e9]at h;split at h
  ·rename_i ys wc
   split at h
   ·rename_i hz
    split at h
    ·rename_i s' t z len hx
     split at h
     ·rename_i b hb
      split at h
      ·rename_i hn
       obtain ⟨n1,rfl,n3,n4,n5⟩:=hn;simp only[Option.some.injEq]at h;subst h;exact AkE hm hs k6 wc hz hx hb n1 n3 n4 n5
      ·cases h
     ·cases h
    ·rename_i hx
     split at h
     ·rename_i hn
      simp only[Option.some.injEq]at h;subst h;exact AkD hm hs k6 wc hz hx hn.1 hn.2
     ·cases h
    ·cases h
   ·cases h
  ·cases h
 | pz a7 x y =>
  simp only[e9]at h;split at h
  ·rename_i s t z off len ys hx wc
   split at h
   ·rename_i b hb
    split at h
    ·rename_i hn
     obtain ⟨n1,rfl,n3,n4⟩:=hn;simp only[Option.some.injEq]at h;subst h;exact AkU hm hs k6 wc n4 hx hb n1 n3
    ·cases h
   ·cases h
  ·cases h
 | call f xs =>
  simp only[e9]at h;split at h
  ·rename_i vs ij
   simp only[Option.map_eq_some_iff]at h;obtain ⟨r,hr,rfl⟩:=h;exact AkK hC hm hs k6 (AoP ij) hr
  ·cases h
 | e8 f xs =>
  simp only[e9,Option.map_eq_some_iff]at h;obtain ⟨r,hr,rfl⟩:=h;exact AbY hC hm hs k6 hr
 | wh ne x =>
  simp only[e9]at h;split at h
  ·rename_i hx
   simp only[Option.some.injEq]at h;subst h;exact oE hm hs k6 (b:=true) λ v hv=>by rw[hx]at hv;exact ⟨none,0,0,eG hv,rfl⟩
  ·rename_i b hx
   simp only[Option.some.injEq]at h;subst h;exact oE hm hs k6 (b:=b) λ v hv=>by
    rw[hx]at hv;obtain ⟨ad,c,h1,h2⟩:=Zx hv;exact ⟨ad,0,c,h1,h2⟩
  ·rename_i hx
   simp only[Option.some.injEq]at h;subst h;exact oE hm hs k6 (b:=false) λ v hv=>by rw[hx]at hv;exact Akh hv
  ·rename_i hx
   simp only[Option.some.injEq]at h;subst h;exact oE hm hs k6 (b:=false) λ v hv=>by rw[hx]at hv;exact Akg hv
  ·cases h
 | bad =>
  have h:(none:Option FB)=some E:=h;cases h
 | dh s f xs =>
  simp only[e9,Option.map_eq_some_iff]at h;obtain ⟨p,hp,rfl⟩:=h;exact AbY hC hm hs (Aoi k6) (nN.1 hp m.own rfl)
 | js tb x =>
  simp only[e9]at h;split at h
  ·rename_i k n hx
   split at h
   ·rename_i h0
    split at h
    ·rename_i v hv
     simp only[Option.some.injEq]at h;subst h;exact Alb hm hs k6 hx h0 hv
    ·cases h
   ·cases h
  ·cases h
 | td p f xs =>
  simp only[e9,Option.map_eq_some_iff]at h;obtain ⟨cs,jc,rfl⟩:=h;rw[hC.num];exact Ak7 hm hs k6 jc
 | n9 f xs =>
  simp only[e9]at h;split at h
  ·rename_i hq
   split at h
   ·rename_i r hr
    split at h
    ·rename_i jf
     simp only[Option.some.injEq]at h;subst h;exact AkN hC hm hs k6 hq hr jf
    ·cases h
   ·cases h
  ·cases h
 | q6 s f xs =>
  simp only[e9]at h;split at h
  ·rename_i vs ij
   simp only[Option.map_eq_some_iff]at h;obtain ⟨⟨z,es⟩,hr,rfl⟩:=h;exact AkO hC hm hs k6 (AoR ij) hr
  ·cases h
 | te s n x v =>
  simp only[e9]at h;split at h
  ·rename_i s' t i j vs hx ij
   split at h
   ·rename_i hn
    obtain ⟨rfl,hn⟩:=hn;simp only[Option.map_eq_some_iff]at h;obtain ⟨n6,ho,rfl⟩:=h;have:=Zj hm hs (Aov k6) hx ij hn ho
    intro K Q hK;refine this K Q λ u m' h1 h2 h3 h4=>hK u m' ?_ h2 h3 h4
    rw[h1];exact (AqW ho).symm
   ·cases h
  ·cases h
 | q8 x xs =>
  simp only[e9]at h;split at h
  ·rename_i p f g cs hx
   split at h
   ·rename_i hg
    rw[hC.num]at hg;subst hg;split at h
    ·split at h
     ·rename_i vs ij
      simp only[Option.map_eq_some_iff]at h;obtain ⟨r,hr,rfl⟩:=h;exact AkM hC hm hs k6 hx ij hr
     ·cases h
    ·simp only[Option.map_eq_some_iff]at h
     obtain ⟨r,hr,rfl⟩:=h;exact AkP hC hm hs k6 hx hr
    ·split at h
     ·rename_i vs ij
      simp only[Option.map_eq_some_iff]at h;obtain ⟨r,hr,rfl⟩:=h;exact AkL hC hm hs k6 hx ij hr
     ·cases h
   ·cases h
  ·cases h
end
end Go.b8

namespace Go.b8
open Go.RowKit
def IO (T:Nat->AV):BL->AV
 | .t n=>T n
 | .c v=>v
def OY (T:Nat->AV) (d:Option Nat) (v:AV):Nat->AV:=λ j=>if d=some j then v else T j
def Q9 (T:Nat->AV):Option (Nat × Bool)->Option Bool
 | none=>some true
 | some (g,want)=>match T g with
  | .bool b=>some (b == want)
  | .g8 []=>some false
  | _=>none
theorem Acz (st:St):st.ev=IO (g7 st.tm):=by funext x;cases x<;>rfl
theorem AnA (st:St) (g:Option (Nat × Bool)):J8 st g=Q9 (g7 st.tm) g:=rfl
theorem Ace (st:St) (d:Option Nat) (v:AV):g7 (st.dst d v).tm=OY (g7 st.tm) d v:=by
 cases d with
 | none=>funext j;simp [St.dst,OY]
 | some d =>
  funext j
  simp only[St.dst,OY,mE];by_cases h:j=d
  ·simp [h]
  ·simp [h,Ne.symm h]
theorem Aje (st:St) (d:Option Nat) (E:FB):g7 (st.app d E).tm=OY (g7 st.tm) d (E.valOf st.own):=by
 cases E<;>simp only[St.app,FB.valOf]<;>exact Ace st d _
theorem Acf (st:St) (d:Option Nat) (v:AV):(st.dst d v).own=st.own:=by cases d<;>rfl
theorem Ajd (st:St) (d:Option Nat) (E:FB):(st.app d E).own=E.ay st.own:=by
 cases E with
 | val v=>simp only[St.app,FB.ay];exact Acf st d v
 | _=>rfl
section
variable {B:Nat} {S:Nat->Prop} {w0:World} {m0:M} {N:Nat}
variable {P:Program} {num:Nat->Nat} {C:Cl} {Q:Exit->Act->World->Prop}
structure KB (B:Nat) (S:Nat->Prop) (w0:World) (m0:M) (N:Nat) (T:Nat->AV) (m:M) (a:Act):Prop where
 mem:D8 B S w0 m
 ext:HC B S m0 m
 tm : ∀ i,CV B S m (T i) (a.tmps.getD i undef)
 size:a.tmps.size=N
 defers:a.defers=[]
theorem KB.put {T:Nat->AV} {m m':M} {a:Act} (h:KB B S w0 m0 N T m a) (d:Option Nat) (hd : ∀ k,d=some k->k<N) {v:AV} {u:Value} (hm:D8 B S w0 m') (he:HC B S m m') (hc:CV B S m' v u):KB B S w0 m0 N (OY T d v) m' (a.put d u):=by
 refine ⟨hm,h.ext.trans he,λ i => ?_,?_,?_⟩
 ·cases d with
  | none=>simpa [OY,Act.put] using he.cv (h.tm i)
  | some k =>
   have hk:k<a.tmps.size:=by rw[h.size];exact hd k rfl
   by_cases Lk:i=k
   ·subst Lk
    simp only[OY,if_true,Act.put];simpa [Array.getD,hk] using hc
   ·have m7 : ¬ (some k=some i):=λ e=>Lk (by simpa using e.symm)
    simp only[OY,if_neg m7,Act.put];have:(a.tmps.setIfInBounds k u).getD i undef=a.tmps.getD i undef:=by
     simp [Array.getElem?_setIfInBounds_ne (Ne.symm Lk)]
    rw[this];exact he.cv (h.tm i)
 ·cases d<;>simp [Act.put,h.size]
 ·cases d<;>simpa [Act.put] using h.defers
theorem KB.says {T:Nat->AV} {m:M} {a:Act} (h:KB B S w0 m0 N T m a):FX B S m (IO T) a.eval:=Aqp (λ_=>rfl) (λ_=>rfl) h.tm
theorem Arw {T:Nat->AV} {m:M} {a:Act} (h:KB B S w0 m0 N T m a) {ops:Array Oper} {o:Oper} {g':Option (Nat × Bool)} (hg:kR ops o.guard g'=true) {g:Bool} (se:Q9 T g'=some g):Region.wanted o (yielded ops a.tmps)=g:=by
 unfold Region.wanted;cases Vn:o.guard with
 | none =>
  cases g' with
  | none=>simp [Q9]at se;simp [se]
  | some _=>simp [kR,Vn]at hg
 | some jw =>
  obtain ⟨j,want⟩:=jw;cases g' with
  | none=>simp [kR,Vn]at hg
  | some tw =>
   obtain ⟨t,AyP⟩:=tw;simp only[kR,Vn,Bool.and_eq_true,beq_iff_eq]at hg;obtain ⟨rfl,hg⟩:=hg;split at hg
   ·rename_i oj Pf
    have Tw:oj.dst=some t:=by simpa using hg
    have ae:=h.tm t;simp only[Q9]at se;unfold yielded;simp only[Pf,Option.bind_some,Tw];split at se
    ·rename_i b hb
     rw[hb]at ae;have hv:=bG ae;have o4:a.tmps[t]? = some (.bool b):=by
      cases ht:a.tmps[t]? with
      | none=>simp [ht,undef]at hv
      | some x=>simp [ht]at hv;rw[hv]
     simp only[o4];simp at se;rw[<-se];cases b<;>cases want<;>rfl
    ·rename_i hb
     rw[hb]at ae;obtain ⟨vs,hv,hl,_⟩:=tU ae;have:vs=[]:=List.eq_nil_of_length_eq_zero (by simpa using hl.symm)
     subst this;simp at se;subst se;cases ht:a.tmps[t]? with
     | none=>rfl
     | some x =>
      simp [ht]at hv;subst hv;rfl
    ·cases se
   ·cases hg
theorem Ahg (hC:L8 P num C) {ops:Array Oper} {i:Nat} {o:Oper} {ai:AI} (hi:ops[i]? = some o) (k6:qA P num N ops o ai=true) {T:Nat->AV} {m:M} {a:Act} (hf:KB B S w0 m0 N T m a) {g:Bool} (hg:Q9 T ai.guard=some g) {E:FB}
  (hE:g=true->e9 C ai.b7 (IO T) m.own ai.op=some E) {K:Act->World->Prop} (hK : ∀ m' a',m'.own=(if g then E.ay m.own else m.own)->KB B S w0 m0 N (OY T ai.dst (if g then E.valOf m.own else .g8 [])) m' a'->K a' m'.w):wpOp P ops Q i K a m.w:=by
 simp only[qA,Bool.and_eq_true,beq_iff_eq]at k6;obtain ⟨⟨⟨h1,h2⟩,h3⟩,h4⟩:=k6;have hd : ∀ k,o.dst=some k->k<N:=λ k hk=>by
  rw[h1]at hk;rw[hk]at h2;simpa using h2
 unfold wpOp;simp only[hi,Arw hf h3 hg];cases g with
 | true =>
  simp only[if_true];refine .inl (AlB hC hf.mem hf.says h4 (hE rfl) K Q λ u m' k9 oy je ae => ?_);refine hK m' _ (by simpa using k9) ?_;rw[<-h1];exact hf.put o.dst hd oy je ae
 | false =>
  simp only[Bool.false_eq_true,if_false];refine hK m _ (by simp) ?_;rw[<-h1];exact hf.put o.dst hd hf.mem (HC.refl m) AeI
theorem Agi {o:AI} {st k8:St} (h:F9 C o st=some k8) : ∃ g E,Q9 (g7 st.tm) o.guard=some g/\(g=true->e9 C o.b7 (IO (g7 st.tm)) st.own o.op=some E)/\g7 k8.tm=OY (g7 st.tm) o.dst (if g then E.valOf st.own else .g8 [])/\k8.own=(if g then E.ay st.own else st.own):=by
 unfold F9 at h;rw[AnA]at h;cases hg:Q9 (g7 st.tm) o.guard with
 | none=>simp [hg]at h
 | some g =>
  cases g with
  | true =>
   simp only[hg,Option.map_eq_some_iff]at h;obtain ⟨E,hE,rfl⟩:=h;rw[Acz]at hE;exact ⟨true,E,rfl,λ_=>hE,Aje st o.dst E,Ajd st o.dst E⟩
  | false =>
   simp only[hg,Option.some.injEq]at h;subst h;exact ⟨false,.val .any,rfl,λ h=>(by cases h),Ace st o.dst _,Acf st o.dst _⟩
theorem kS {ops:Array Oper} : ∀ {os:List Oper} {l:List AI},YW P num N ops os l=true->os.length=l.length /\ ∀ (i:Nat) (o:Oper) (x:AI),os[i]? = some o->l[i]? = some x->qA P num N ops o x=true
 | [],[],_=>⟨rfl,λ i o x h=>by simp at h⟩
 | o::r,x::l,h=>by
  simp only[YW,Bool.and_eq_true]at h;obtain ⟨h1,h2⟩:=kS h.2;refine ⟨by simp [h1],λ i o' x' ho hx => ?_⟩;cases i with
  | zero=>simp at ho hx;subst ho hx;exact h.1
  | succ i=>exact h2 i o' x' (by simpa using ho) (by simpa using hx)
 | [],_::_,h=>by simp [YW]at h
 | _::_,[],h=>by simp [YW]at h
theorem Ahh (hC:L8 P num C) {ops:Array Oper} {l:List AI} (k6:YW P num N ops ops.toList l=true) : ∀ (n k:Nat) (st k8:St) (m:M) (a:Act),n+k=ops.size->G1 C (l.drop k) st=some k8->m.own=st.own->KB B S w0 m0 N (g7 st.tm) m a ->
  (∀ m' a',m'.own=k8.own->KB B S w0 m0 N (g7 k8.tm) m' a'->Q .normal a' m'.w)->wpOps P ops Q (List.range' k n) a m.w
 | 0,k,st,k8,m,a,hk,hs,k9,hf,hQ=>by
  have hl:=(kS k6).1;simp at hl;rw[List.drop_eq_nil_of_le (by omega)]at hs;simp only[G1,Option.some.injEq]at hs;subst hs;simpa [wpOps] using hQ m a k9 hf
 | n+1,k,st,k8,m,a,hk,hs,k9,hf,hQ=>by
  obtain ⟨hl,hg⟩:=kS k6;simp at hl;have Fy:k<l.length:=by omega
  have hko:k<ops.size:=by omega
  rw[List.drop_eq_getElem_cons Fy]at hs;simp only[G1]at hs;cases j8:F9 C l[k] st with
  | none=>simp [j8]at hs
  | some C2 =>
   simp only[j8]at hs;obtain ⟨g,E,h1,h2,h3,h4⟩:=Agi j8;rw[List.range'_succ,wpOps_cons];have hoi:ops[k]? = some ops[k]:=Array.getElem?_eq_getElem hko;refine Ahg hC hoi (hg k ops[k] l[k] (by simp [hko]) (zE Fy)) hf h1 (λ dz=>by rw[k9];exact h2 dz) λ m' a' nq ql => ?_
   refine Ahh hC k6 n (k+1) C2 k8 m' a' (by omega) hs ?_ ?_ hQ
   ·rw[nq,k9,h4]
   ·rw[k9]at ql
    rw[h3];exact ql
end
end Go.b8

namespace Go.b8
open Go.RowKit
section
variable {T T':Nat->AV} {C:Cl} {b7:List Nat} {own:BD}
theorem HP {x:BL} (h : ∀ t∈GG x,T t=T' t):IO T x=IO T' x:=by
 cases x with
 | t n=>exact h n (by simp [GG])
 | c v=>rfl
theorem cK {xs:List BL} (h : ∀ t∈xs.flatMap GG,T t=T' t):xs.map (IO T)=xs.map (IO T') :=
 List.map_congr_left λ x hx=>HP λ t ht=>h t (List.mem_flatMap.2 ⟨x,hx,ht⟩)
theorem Ae8 {x:Option BL} (h : ∀ t∈yC x,T t=T' t) {y:BL} (hy:x=some y):IO T y=IO T' y:=by
 subst hy;exact HP h
theorem Alw {op:H0} (h : ∀ t∈M6 op,T t=T' t):e9 C b7 (IO T) own op=e9 C b7 (IO T') own op:=by
 cases op with
 | build z ps =>
  simp only[e9];congr 2;refine List.map_congr_left λ p hp => ?_
  rw[HP (x:=p.2.2) λ t ht=>h t (by simp only[M6];exact List.mem_flatMap.2 ⟨p,hp,ht⟩)]
 | a8 s a7 ps =>
  have hm:ps.mapM (λ x=>cellsOf (IO T x))=ps.mapM (λ x=>cellsOf (IO T' x)):=by
   have e : ∀ l:List BL,(∀ x∈l,IO T x=IO T' x)->l.mapM (λ x=>cellsOf (IO T x))=l.mapM (λ x=>cellsOf (IO T' x)):=by
    intro l;induction l with
    | nil=>intro _;rfl
    | cons x r ih=>intro hl;simp only[List.mapM_cons];rw[hl x (by simp),ih λ y hy=>hl y (by simp [hy])]
   exact e ps λ x hx=>HP λ t ht=>h t (by simp only[M6];exact List.mem_flatMap.2 ⟨x,hx,ht⟩)
  simp only[e9,hm]
 | mm mx xs=>simp only[e9];rw[cK (xs:=xs) h]
 | call f xs=>simp only[e9];rw[cK (xs:=xs) h]
 | e8 f xs=>simp only[e9];rw[cK (xs:=xs) h]
 | wh ne x=>simp only[e9];rw[HP (x:=x) h]
 | bad=>rfl
 | js tb x=>simp only[e9];rw[HP (x:=x) h]
 | td p f xs =>
  have e : ∀ l:List BL,(∀ x∈l,IO T x=IO T' x)->l.mapM (λ x=>L3 (IO T x))=l.mapM (λ x=>L3 (IO T' x)):=by
   intro l;induction l with
   | nil=>intro _;rfl
   | cons x r ih=>intro hl;simp only[List.mapM_cons];rw[hl x (by simp),ih λ y hy=>hl y (by simp [hy])]
  simp only[e9];rw[e xs λ x hx=>HP λ t ht=>h t (by simp only[M6];exact List.mem_flatMap.2 ⟨x,hx,ht⟩)]
 | n9 f xs=>simp only[e9];rw[cK (xs:=xs) h]
 | q6 s f xs=>simp only[e9];rw[cK (xs:=xs) h]
 | dh s f xs=>simp only[e9];rw[cK (xs:=xs) h]
 | te s n x v =>
  simp only[M6,List.mem_append]at h;simp only[e9];rw[HP (x:=x) λ t ht=>h t (.inl ht),HP (x:=v) λ t ht=>h t (.inr ht)]
 | q8 x xs =>
  simp only[M6,List.mem_append]at h;simp only[e9];rw[HP (x:=x) λ t ht=>h t (.inl ht),cK (xs:=xs) λ t ht=>h t (.inr ht)]
 | gn a7 x lo hi =>
  simp only[M6,List.mem_append]at h;have hx:IO T x=IO T' x:=HP λ t ht=>h t (.inl (.inl ht))
  have nz : ∀ y,lo=some y->IO T y=IO T' y:=λ y hy=>Ae8 (λ t ht=>h t (.inl (.inr ht))) hy
  have Ov : ∀ y,hi=some y->IO T y=IO T' y:=λ y hy=>Ae8 (λ t ht=>h t (.inr ht)) hy
  simp only[e9,hx];cases lo with
  | none=>cases hi with
   | none=>rfl
   | some y=>simp only[Ov y rfl]
  | some z=>cases hi with
   | none=>simp only[nz z rfl]
   | some y=>simp only[nz z rfl,Ov y rfl]
 | bu=>rfl
 | alloc=>rfl
 | v3 x=>simp only[e9];rw[HP (x:=x) h]
 | un f x=>simp only[e9];rw[HP (x:=x) h]
 | conv k x=>simp only[e9];rw[HP (x:=x) h]
 | box s x=>simp only[e9];rw[HP (x:=x) h]
 | k7 x off=>simp only[e9];rw[HP (x:=x) h]
 | rn x off n agg=>simp only[e9];rw[HP (x:=x) h]
 | ld agg n x=>simp only[e9];rw[HP (x:=x) h]
 | ext x i=>simp only[e9];rw[HP (x:=x) h]
 | len x=>simp only[e9];rw[HP (x:=x) h]
 | pick c x y =>
  simp only[M6,List.mem_append]at h;simp only[e9];rw[HP (x:=c) λ t ht=>h t (.inl (.inl ht)),HP (x:=x) λ t ht=>h t (.inl (.inr ht)),HP (x:=y) λ t ht=>h t (.inr ht)]
 | bin f x y =>
  simp only[M6,List.mem_append]at h;simp only[e9];rw[HP (x:=x) λ t ht=>h t (.inl ht),HP (x:=y) λ t ht=>h t (.inr ht)]
 | beq ne x y =>
  simp only[M6,List.mem_append]at h;simp only[e9];rw[HP (x:=x) λ t ht=>h t (.inl ht),HP (x:=y) λ t ht=>h t (.inr ht)]
 | v7 arr a7 x i =>
  simp only[M6,List.mem_append]at h;simp only[e9];rw[HP (x:=x) λ t ht=>h t (.inl ht),HP (x:=i) λ t ht=>h t (.inr ht)]
 | st n x v =>
  simp only[M6,List.mem_append]at h;simp only[e9];rw[HP (x:=x) λ t ht=>h t (.inl ht),HP (x:=v) λ t ht=>h t (.inr ht)]
 | mk s a7 bytes z l c =>
  simp only[M6,List.mem_append]at h;simp only[e9];rw[HP (x:=l) λ t ht=>h t (.inl ht),HP (x:=c) λ t ht=>h t (.inr ht)]
 | app s a7 bytes x y =>
  simp only[M6,List.mem_append]at h;simp only[e9];rw[HP (x:=x) λ t ht=>h t (.inl ht),HP (x:=y) λ t ht=>h t (.inr ht)]
 | pz a7 x y =>
  simp only[M6,List.mem_append]at h;simp only[e9];rw[HP (x:=x) λ t ht=>h t (.inl ht),HP (x:=y) λ t ht=>h t (.inr ht)]
theorem AdW (o:BD) (l:List Nat) (s:Nat):o.o5 l s=if s∈l then ⟨0,λ_=>none⟩ else o s:=by
 induction l with
 | nil=>simp [BD.o5]
 | cons x r ih =>
  simp only[BD.o5,List.mem_cons];by_cases h:s=x
  ·simp [h]
  ·rw[if_neg h,ih]
   simp [h]
theorem An2 {o o':BD} {l:List Nat} (h : ∀ s,s ∉ l->o s=o' s):o.o5 l=o'.o5 l:=by
 funext s
 rw[AdW,AdW];split
 ·rfl
 ·rename_i hs;exact h s hs
end
section
variable {ops:Array Oper}
def inner (acc:Array Nat) (o:Oper):Nat:=o.after.foldl (λ s e=>if Region.binds .any e then s ||| 2^e.on ||| acc.getD e.on 0 else s) 0
theorem An7 (acc:Array Nat) (o:Oper) (j:Nat) (h:(inner acc o).testBit j=true) : ∃ e∈o.after,Region.binds .any e=true/\(e.on=j\/(acc.getD e.on 0).testBit j=true):=by
 unfold inner at h;rw[<-Array.foldl_toList]at h;have key : ∀ (l:List Edge) (s:Nat),(l.foldl (λ s e=>if Region.binds .any e then s ||| 2^e.on ||| acc.getD e.on 0 else s) s).testBit j=true->s.testBit j=true \/ ∃ e∈l,Region.binds .any e=true/\(e.on=j\/(acc.getD e.on 0).testBit j=true):=by
  intro l;induction l with
  | nil=>intro s hs;exact .inl hs
  | cons e r ih =>
   intro s hs;simp only[List.foldl_cons]at hs;rcases ih _ hs with h1|⟨e',jy,h2⟩
   ·by_cases hb:Region.binds .any e=true
    ·simp only[hb,if_true,Nat.testBit_or,Bool.or_eq_true,Nat.testBit_two_pow,decide_eq_true_eq]at h1
     rcases h1 with (h1|h1)|h1
     ·exact .inl h1
     ·exact .inr ⟨e,by simp,hb,.inl h1⟩
     ·exact .inr ⟨e,by simp,hb,.inr h1⟩
    ·simp only[hb,Bool.false_eq_true,if_false]at h1
     exact .inl h1
   ·exact .inr ⟨e',by simp [jy],h2⟩
 rcases key _ _ h with h|⟨e,he,h⟩
 ·simp at h
 ·exact ⟨e,by simpa using he,h⟩
theorem Ajh (i j:Nat) (h:((Region.before ops).getD i 0).testBit j=true) : ∃ o,ops[i]? = some o /\ ∃ e∈o.after,Region.binds .any e=true/\(e.on=j\/(e.on<i/\((Region.before ops).getD e.on 0).testBit j=true)):=by
 have key : ∀ (rest:List Oper) (done:List Oper) (acc:Array Nat),acc.size=done.length ->
   (∀ i j,(acc.getD i 0).testBit j=true -> ∃ o,done[i]? = some o /\ ∃ e∈o.after,Region.binds .any e=true/\(e.on=j\/(e.on<i/\(acc.getD e.on 0).testBit j=true))) ->
   ∀ i j,((rest.foldl (λ acc o=>acc.push (inner acc o)) acc).getD i 0).testBit j=true -> ∃ o,(done++rest)[i]? = some o /\ ∃ e∈o.after,Region.binds .any e=true/\(e.on=j\/(e.on<i/\((rest.foldl (λ acc o=>acc.push (inner acc o)) acc).getD e.on 0).testBit j=true)):=by
  intro rest;induction rest with
  | nil=>intro done acc hs hinv i j hj;simpa using hinv i j hj
  | cons o r ih =>
   intro done acc hs hinv i j hj;simp only[List.foldl_cons]at hj ⊢;have:=ih (done++[o]) (acc.push (inner acc o)) (by simp [hs]) (λ i j Dz => ?_) i j hj
   ·simpa using this
   ·have o4 : ∀ k,k<acc.size->(acc.push (inner acc o)).getD k 0=acc.getD k 0:=λ k hk=>by
     simp [Array.getD,hk,Nat.lt_succ_of_lt hk,Array.getElem_push_lt hk]
    by_cases hi:i<acc.size
    ·rw[o4 i hi]at Dz
     obtain ⟨o',Cg,e,he,hb,fj⟩:=hinv i j Dz;refine ⟨o',by rw[List.getElem?_append_left (by omega)];exact Cg,e,he,hb,fj.imp id λ⟨h1,h2⟩=>⟨h1,by rw[o4 e.on (by omega)];exact h2⟩⟩
    ·have Us:i=acc.size:=by
      rcases Nat.lt_or_ge i (acc.push (inner acc o)).size with h1|h1
      ·simp at h1;omega
      ·have:(acc.push (inner acc o)).getD i 0=0:=by simp [Array.getD];intro h2;simp at h1;omega
       rw[this]at Dz;simp at Dz
     subst Us;have me:(acc.push (inner acc o)).getD acc.size 0=inner acc o:=by simp [Array.getD]
     rw[me]at Dz;obtain ⟨e,he,hb,fj⟩:=An7 acc o j Dz;refine ⟨o,by rw[hs];simp,e,he,hb,fj.imp id λ h2 => ?_⟩;have l7:e.on<acc.size:=by
      rcases Nat.lt_or_ge e.on acc.size with h3|h3
      ·exact h3
      ·have:acc.getD e.on 0=0:=by simp [Array.getD];omega
       rw[this]at h2;simp at h2
     exact ⟨l7,by rw[o4 e.on l7];exact h2⟩
 have hb:Region.before ops=ops.toList.foldl (λ acc o=>acc.push (inner acc o)) #[]:=by
  unfold Region.before;rw[<-Array.foldl_toList];rfl
 rw[hb]at h ⊢;have:=key ops.toList [] #[] rfl (λ i j Dz=>by simp at Dz) i j h
 simpa using this
def dP (ops:Array Oper) (X:Nat->Bool):Prop := ∀ j o,X j=true->ops[j]? = some o -> ∀ e∈o.after,Region.binds .any e=true->X e.on=true
theorem anc {X:Nat->Bool} (hX:dP ops X) : ∀ (i:Nat),(∀ o,ops[i]? = some o -> ∀ e∈o.after,Region.binds .any e=true->X e.on=true) -> ∀ j,((Region.before ops).getD i 0).testBit j=true->X j=true:=by
 intro i;induction i using Nat.strongRecOn with
 | ind i ih =>
  intro hi j hj;obtain ⟨o,ho,e,he,hb,fj⟩:=Ajh i j hj;have hx:=hi o ho e he hb;rcases fj with h|⟨l7,h⟩
  ·rw[<-h];exact hx
  ·exact ih e.on l7 (λ o' Cg e' jy m4=>hX e.on o' hx Cg e' jy m4) j h
theorem Apu {X:Nat->Bool} (hX:dP ops X) {i j:Nat} (hi : ∀ o,ops[i]? = some o -> ∀ e∈o.after,Region.binds .any e=true->X e.on=true) (l7:j<i) (h:N0 (Region.before ops) i j=true):X j=true:=by
 unfold N0 at h;rw[Nat.max_eq_left (by omega),Nat.min_eq_right (by omega)]at h;exact anc hX i hi j h
theorem Afa {X:Nat->Bool} (hX:dP ops X) {i j:Nat} (hj:X j=true) (l7:i<j) (h:N0 (Region.before ops) i j=true):X i=true:=by
 unfold N0 at h;rw[Nat.max_eq_right (by omega),Nat.min_eq_left (by omega)]at h;exact anc hX j (λ o ho e he hb=>hX j o hj ho e he hb) i h
end
section
variable {C:Cl}
abbrev D:=(Nat->AV) × BD
structure H1 where
 d:Option Nat
 g:Bool
 E:FB
 v:AV
def H1.own (r:H1) (o:BD):BD:=if r.g then r.E.ay o else o
def H1.act (r:H1) (x:D):D:=(OY x.1 r.d r.v,r.own x.2)
structure dQ (C:Cl) (x:AI) (r:H1) (s s':St):Prop where
 d:r.d=x.dst
 g:Q9 (g7 s.tm) x.guard=some r.g
 E:r.g=true->e9 C x.b7 (IO (g7 s.tm)) s.own x.op=some r.E
 v:r.v=(if r.g then r.E.valOf s.own else .g8 [])
 act:(g7 s'.tm,s'.own)=r.act (g7 s.tm,s.own)
theorem trace : ∀ {l:List AI} {st k8:St},G1 C l st=some k8 -> ∃ (σ:Nat->St) (rs:List H1),σ 0=st/\σ l.length=k8/\rs.length=l.length /\ ∀ (k:Nat) (x:AI) (r:H1),l[k]? = some x->rs[k]? = some r->dQ C x r (σ k) (σ (k+1))
 | [],st,k8,h=>by
  simp only[G1,Option.some.injEq]at h;subst h;exact ⟨λ_=>st,[],rfl,rfl,rfl,λ k x r hx=>by simp at hx⟩
 | o::q,st,k8,h=>by
  simp only[G1]at h;cases hs:F9 C o st with
  | none=>simp [hs]at h
  | some C2 =>
   simp only[hs]at h;obtain ⟨σ,rs,h0,h1,hl,h2⟩:=trace h;obtain ⟨g,E,e1,e2,e3,e4⟩:=Agi hs;refine ⟨λ k=>match k with|0=>st|k+1=>σ k,⟨o.dst,g,E,if g then E.valOf st.own else .g8 []⟩::rs,rfl,h1,by simp [hl],λ k x r hx hr => ?_⟩;cases k with
   | zero =>
    simp at hx hr;subst hx hr;refine ⟨rfl,e1,e2,rfl,?_⟩;show (g7 (σ 0).tm,(σ 0).own)=_;rw[h0,e3,e4];rfl
   | succ k=>exact h2 k x r (by simpa using hx) (by simpa using hr)
def HO (X:Nat->Bool):List H1->Nat->D->D
 | [],_,x=>x
 | r::rs,k,x=>HO X rs (k+1) (if X k then r.act x else x)
theorem vT (X:Nat->Bool) : ∀ (l l':List H1) (k:Nat) (x:D),HO X (l++l') k x=HO X l' (k+l.length) (HO X l k x)
 | [],l',k,x=>by simp [HO]
 | r::rs,l',k,x=>by
  simp only[List.cons_append,HO,List.length_cons];rw[vT X rs l' (k+1)];congr 1;omega
theorem Adw {X Y:Nat->Bool} {t:Nat} : ∀ (l:List H1) (k:Nat) (x y:D),x.1 t=y.1 t->(∀ i r,l[i]? = some r->r.d=some t->X (k+i)=Y (k+i))->(HO X l k x).1 t=(HO Y l k y).1 t
 | [],k,x,y,h,_=>h
 | r::rs,k,x,y,h,yj=>by
  simp only[HO];refine Adw rs (k+1) _ _ ?_ λ i r' hr hd=>by
   have:=yj (i+1) r' (by simpa using hr) hd
   rw[show k+1+i=k+(i+1) by omega];exact this
  by_cases hd:r.d=some t
  ·have hx:X k=Y k:=by simpa using yj 0 r rfl hd
   rw[hx];cases Y k
   ·simpa using h
   ·simp [H1.act,OY,hd]
  ·have e1 : ∀ z:D,(r.act z).1 t=z.1 t:=λ z=>by simp [H1.act,OY,hd]
   cases X k<;>cases Y k<;>simp [e1,h]
theorem Apv (E:FB) (s:Nat) (o o':BD) (h:o s=o' s):E.ay o s=E.ay o' s:=by
 cases E with
 | val v=>exact h
 | new s' b v =>
  simp only[FB.ay,BD.put];by_cases hs:s=s'
  ·subst hs;simp [h]
  ·simp [hs,h]
 | Df s' b v =>
  simp only[FB.ay,BD.put];by_cases hs:s=s'
  ·subst hs;simp [h]
  ·simp [hs,h]
 | fp v o2=>rfl
 | Bg s' x v =>
  simp only[FB.ay,BD.put];by_cases hs:s=s'
  ·simp [hs]
  ·simp [hs,h]
 | w6 s' x =>
  simp only[FB.ay,BD.put];by_cases hs:s=s'
  ·simp [hs]
  ·simp [hs,h]
theorem Adv {X Y:Nat->Bool} {s:Nat} : ∀ (l:List H1) (k:Nat) (x y:D),x.2 s=y.2 s->(∀ i r,l[i]? = some r->X (k+i)=Y (k+i) \/ ∀ o,r.own o s=o s)->(HO X l k x).2 s=(HO Y l k y).2 s
 | [],k,x,y,h,_=>h
 | r::rs,k,x,y,h,yj=>by
  simp only[HO];refine Adv rs (k+1) _ _ ?_ λ i r' hr=>by
   have:=yj (i+1) r' (by simpa using hr)
   rw[show k+1+i=k+(i+1) by omega];exact this
  rcases yj 0 r rfl with hx|hx
  ·simp only[Nat.add_zero]at hx
   rw[hx];cases Y k
   ·simpa using h
   ·simp only[if_true,H1.act,H1.own]
    cases r.g
    ·simpa using h
    ·simpa using Apv r.E s _ _ h
  ·have e1 : ∀ z:D,(r.act z).2 s=z.2 s:=λ z=>hx z.2
   cases X k<;>cases Y k<;>simp [e1,h]
theorem vU {X:Nat->Bool} (q:H1) : ∀ (l:List H1) (k:Nat) (x:D),(∀ i r,l[i]? = some r->X (k+i)=true -> ∀ z,r.act (q.act z)=q.act (r.act z))->HO X l k (q.act x)=q.act (HO X l k x)
 | [],k,x,_=>rfl
 | r::rs,k,x,h=>by
  simp only[HO];have fk : ∀ i r',rs[i]? = some r'->X (k+1+i)=true -> ∀ z,r'.act (q.act z)=q.act (r'.act z):=λ i r' hr hX=>h (i+1) r' (by simpa using hr) (by rw[show k+(i+1)=k+1+i by omega];exact hX)
  cases hk:X k
  ·simp only[Bool.false_eq_true,if_false]
   exact vU q rs (k+1) x fk
  ·simp only[if_true]
   rw[h 0 r rfl (by simpa using hk)];exact vU q rs (k+1) _ fk
theorem pC {X Y:Nat->Bool} : ∀ (l:List H1) (k:Nat) (x:D),(∀ i,i<l.length->X (k+i)=Y (k+i))->HO X l k x=HO Y l k x
 | [],_,_,_=>rfl
 | r::rs,k,x,h=>by
  simp only[HO];rw[show X k=Y k by simpa using h 0 (by simp)];exact pC rs (k+1) _ λ i hi=>by
   have:=h (i+1) (by simpa using hi)
   rw[show k+1+i=k+(i+1) by omega];exact this
theorem Adu {X X':Nat->Bool} {l:List H1} {i:Nat} {q:H1} (hq:l[i]? = some q) (ot:X i=false) (As : ∀ j,X' j=(decide (j=i)||X j)) (x:D) (Kw : ∀ j r,l[j]? = some r->i<j->X j=true -> ∀ z,r.act (q.act z)=q.act (r.act z)) :
  HO X' l 0 x=q.act (HO X l 0 x):=by
 have im:i<l.length:=(zS hq).1;have hli:l=l.take i++(q::l.drop (i+1)):=by
  have:l.drop i=q::l.drop (i+1):=by
   rw[List.drop_eq_getElem_cons im];congr 1;have:=(zS hq).2
   exact this
  rw[<-this,List.take_append_drop]
 have kp:(l.take i).length=i:=by simp;omega
 rw[hli,vT,vT,kp,Nat.zero_add];simp only[HO,ot,Bool.false_eq_true,if_false];rw[show X' i=true by rw[As];simp];simp only[if_true];rw[pC (X:=X') (Y:=X) (l.take i) 0 x (λ j hj=>by rw[As];simp;omega)];rw[pC (X:=X') (Y:=X) (l.drop (i+1)) (i+1) _ (λ j hj=>by rw[As];simp;omega)];refine vU q _ _ _ λ j r hr Sz => ?_
 rw[List.getElem?_drop]at hr;exact Kw (i+1+j) r hr (by omega) Sz
end
end Go.b8
