/-
  Slice expressions, append, copy.
-/
import Derived.Test.YtpafclijakpknaaGreatB3
import Derived.Laws.Slices
import Derived.Orders
set_option linter.unusedSimpArgs false
set_option linter.unusedVariables false
set_option linter.unnecessarySimpa false
namespace Go.c9
open Go.RowKit
section
variable {B:Nat} {S:Nat->Prop} {w0:World} {m:M}
variable {P:Program} {num:Nat->Nat} {o:Oper} {a:Act} {ρ:C4->AV}
def WQ (ρ:C4->AV) (d:Nat):Option C4->Option Int
 | none=>some d
 | some y=>match ρ y with | .int _ n=>some n|_=>none
theorem AcJ (ty e:TypeId) (inf:TypeInfo) (hu:P.underlying ty=some (.slice e)) (hi:P.info? e=some inf) (hs:I0 B S m ρ a.eval) {lo bu:Option Operand} {yz Ye:Option C4} (yn:nX lo yz=true) (hhi:nX bu Ye=true)
  (ad:Option Addr) (len cap:Nat) (l h:Int) (hl:WQ ρ 0 yz=some l) (hh:WQ ρ len Ye=some h) (h0:0<=l) (hlh:l<=h) (Ld:h<=len) (su:len<=cap) (w:World) :
  (Instr.sliceAt ty (.slice ad len cap) (lo.map a.eval) (bu.map a.eval) none).run P w = .ok (.slice (if cap=l.toNat then ad else ad.map (·.add (l.toNat*inf.size))) (h.toNat-l.toNat) (cap-l.toNat)) w:=by
 have Hc : ∀ {x:Option Operand} {y:Option C4} {d:Nat} {n:Int},nX x y=true->WQ ρ d y=some n->(x=none/\y=none/\n=d) \/ ∃ x' k,x=some x'/\a.eval x' = .int k n:=by
  intro x y d n Dx hb;cases x with
  | none=>cases y with
   | none=>simp [WQ]at hb;exact .inl ⟨rfl,rfl,hb.symm⟩
   | some y=>simp [nX]at Dx
  | some x=>cases y with
   | none=>simp [nX]at Dx
   | some y =>
    simp only[nX]at Dx;simp only[WQ]at hb;cases hy:ρ y with
    | int k q =>
     rw[hy]at hb;simp only[Option.some.injEq]at hb;subst hb;exact .inr ⟨x,k,rfl,YN (hy ▸ hs x y Dx)⟩
    | _=>rw[hy]at hb;cases hb
 have Kw:h<=(cap:Int):=by omega
 unfold Instr.sliceAt Instr.slice Instr.sliceBounds;rcases Hc yn hl with ⟨rfl,_,rfl⟩|⟨x1,k1,rfl,e1⟩<;>rcases Hc hhi hh with ⟨rfl,_,rfl⟩|⟨x2,k2,rfl,e2⟩
 ·simp [run_underlying hu,sizeOf,typeInfo,hi]
 ·have Ib:=run_sliceBound (P:=P) w k2 h cap .sliceAcap (by omega) Kw
  simp [run_underlying hu,sizeOf,typeInfo,hi,e2,Ib]
 ·have dd:=run_sliceBound (P:=P) w k1 l len .sliceB h0 (by omega)
  simp [run_underlying hu,sizeOf,typeInfo,hi,e1,dd]
 ·have Ib:=run_sliceBound (P:=P) w k2 h cap .sliceAcap (by omega) Kw
  have dd:=run_sliceBound (P:=P) w k1 l h.toNat .sliceB h0 (by omega);simp [run_underlying hu,sizeOf,typeInfo,hi,e1,e2,Ib,dd]
theorem Aso (hm:GR B S w0 m) (hs:I0 B S m ρ a.eval) {b7:Nat} {x':C4} {yz bu:Option C4} (h:FW P num o.op (.kv b7 x' yz bu)=true) (hx:ρ x' = .nil) (hl:WQ ρ 0 yz=some 0) (hh:WQ ρ 0 bu=some 0):I9 B S w0 P o a m (.val .nil):=by
 obtain ⟨ty,x,lo,Ih,e,inf,o9,h1,h2,h3,hu,hi,di,u5⟩:=Afs h;have iv:=wO (hx ▸ hs x x' h1);have cp:=AcJ ty e inf hu hi hs h2 h3 none 0 0 0 0 hl hh (by omega) (by omega) (by omega) (by omega) m.w;refine MH hm (u := .slice none 0 0) ?_ (.ca (.one .nil));simp only[execOp,o9,iv,Sem.run_bind,Option.map_none,cp];rfl
theorem Asp (hm:GR B S w0 m) (hs:I0 B S m ρ a.eval) {b7:Nat} {x':C4} {yz bu:Option C4} (h:FW P num o.op (.kv b7 x' yz bu)=true) {s t z off len:Nat} {l u:Int} (hx:ρ x' = .row s t z off len) (hl:WQ ρ 0 yz=some l) (hh:WQ ρ len bu=some u) (h0:0<=l) (hlu:l<=u) (yu:u<=len) (hz:z=b7) :
  I9 B S w0 P o a m (.val (.row s t z (off+l.toNat) (u.toNat-l.toNat))):=by
 obtain ⟨ty,x,lo,Ih,e,inf,o9,h1,h2,h3,hu,hi,di,u5⟩:=Afs h;obtain ⟨ad,cap,iv,ht,jm,su,ha,hb⟩:=wV (hx ▸ hs x x' h1);have cp:=AcJ ty e inf hu hi hs h2 h3 ad len cap l u hl hh h0 hlu yu su m.w;refine MH hm ?_ (.ca (.one (.row s t z (off+l.toNat) (u.toNat-l.toNat) (if cap=l.toNat then ad else ad.map (·.add (l.toNat*inf.size))) (cap-l.toNat) ht jm (by omega) (λ hp => ?_) λ b o8 => ?_)))
 ·simp only[execOp,o9,iv,Sem.run_bind,Option.map_none,cp]
  rfl
 ·rw[if_neg (by omega)]
  obtain ⟨Pf,rfl⟩:=Option.isSome_iff_exists.1 (ha (by omega));rfl
 ·obtain ⟨Bc,lu⟩:=hb b o8
  refine ⟨Bc,?_⟩;rcases lu with ⟨Ez,qy⟩|⟨g,arr,e',hg,uh,hh',hle⟩
  ·exact .inl ⟨by omega,by omega⟩
  ·by_cases hc:cap=l.toNat
   ·exact .inl ⟨by omega,by omega⟩
   ·refine .inr ⟨g,arr,e',hg,?_,hh',?_⟩
    ·rw[if_neg hc,uh,di,hz]
     simp only[Option.map_some,WC,Nat.add_mul]
    ·rw[show off+l.toNat+(cap-l.toNat)=off+cap by omega]
     exact hle
theorem Asq (hm:GR B S w0 m) (hs:I0 B S m ρ a.eval) {b7:Nat} {x':C4} {yz bu:Option C4} (h:FW P num o.op (.kv b7 x' yz bu)=true) {lt:Bool} {es:List (List AV)} {l u:Int} (hx:ρ x' = .sl lt es) (hl:WQ ρ 0 yz=some l) (hh:WQ ρ es.length bu=some u) (h0:0<=l) (hlu:l<=u) (yu:u<=es.length) (hz : ∀ e∈es,e.length=b7) :
  I9 B S w0 P o a m (.val (.sl lt ((es.take u.toNat).drop l.toNat))):=by
 obtain ⟨ty,x,lo,Ih,e,inf,o9,h1,h2,h3,hu,hi,di,u5⟩:=Afs h;have vk:=AbL (hx ▸ hs x x' h1);generalize iv:a.eval x=v at vk;cases vk with
 | rm _ ad cap =>
  have cp:=AcJ ty e inf hu hi hs h2 h3 ad 0 cap l u hl hh h0 hlu (by simpa using yu) (by omega) m.w;simp only[List.length_nil]at yu;rw[show (([]:List (List AV)).take u.toNat).drop l.toNat=[] by simp];refine MH hm (u := .slice (if cap=l.toNat then ad else ad.map (·.add (l.toNat*inf.size))) 0 (cap-l.toNat)) ?_ (.ca (.one (.rd (.rm lt _ _))));simp only[execOp,o9,iv,Sem.run_bind,Option.map_none,cp];rw[show u.toNat-l.toNat=0 by omega];rfl
 | sl _ _ b ob dh cap uu Fj hp hR gu ri hc hr =>
  have cp:=AcJ ty e inf hu hi hs h2 h3 (some ⟨b,ob,none⟩) es.length cap l u hl hh h0 hlu yu gu m.w;have Zn:dh=b7:=by
   cases es with
   | nil=>exact absurd rfl Fj
   | cons q r=>rw[<-ri q (by simp),hz q (by simp)]
  subst Zn;by_cases jm:u.toNat-l.toNat=0
  ·have:(es.take u.toNat).drop l.toNat=[]:=by
    apply List.eq_nil_of_length_eq_zero;simp;omega
   rw[this];refine MH hm (u := .slice (if cap=l.toNat then some ⟨b,ob,none⟩ else (some (⟨b,ob,none⟩:Addr)).map (·.add (l.toNat*inf.size))) 0 (cap-l.toNat)) ?_ (.ca (.one (.rd (Rd.rm lt _ _))));simp only[execOp,o9,iv,Sem.run_bind,Option.map_none,cp];rw[jm];rfl
  ·have hlen:((es.take u.toNat).drop l.toNat).length=u.toNat-l.toNat:=by simp;omega
   have z9 : ∀ i,i<u.toNat-l.toNat->((es.take u.toNat).drop l.toNat)[i]? = es[l.toNat+i]? := λ i bu=>by
    rw[List.getElem?_drop,List.getElem?_take,if_pos (by omega)]
   refine MH hm (u := .slice (some ⟨b,ob+l.toNat*dh,none⟩) ((es.take u.toNat).drop l.toNat).length (cap-l.toNat)) ?_ (.ca (.one (.rd (.sl lt _ b (ob+l.toNat*dh) dh (cap-l.toNat) (λ i j=>uu (l.toNat+i) j) (λ e=>jm (by rw[<-hlen,e];rfl)) hp hR (by rw[hlen];omega) (λ q hq=>ri q (List.mem_of_mem_take (List.mem_of_mem_drop hq))) (λ i q bu j c hj => ?_) (λ i q bu j c hj => ?_)))))
   ·simp only[execOp,o9,iv,Sem.run_bind,Option.map_none,cp]
    rw[if_neg (by omega),hlen,di];simp only[Option.map_some,WC];rfl
   ·have qg:i<u.toNat-l.toNat:=by rw[<-hlen];exact (zS bu).1
    rw[z9 i qg]at bu;rw[show ob+l.toNat*dh+(i*dh+j)=ob+((l.toNat+i)*dh+j) by rw[Nat.add_mul];omega];exact hc _ q bu j c hj
   ·have qg:i<u.toNat-l.toNat:=by rw[<-hlen];exact (zS bu).1
    rw[z9 i qg]at bu;exact hr _ q bu j c hj
structure zF (B:Nat) (S:Nat->Prop) (m:M) (b7:Nat) (ys:List (List AV)) (ad:Option Addr) (news:List Value):Prop where
 len:news.length=ys.length*b7
 cells : ∀ b,ad=some b -> ∀ j v,news[j]? = some v->m.w.cell? (b.add j)=some v
 some_:ys≠[]->ad.isSome=true
 rel : ∀ i cs,ys[i]? = some cs -> ∀ j c,cs[j]? = some c -> ∃ u,news[i*b7+j]? = some u/\CC B S m c u
theorem ArN (b7 i j:Nat) (h:j<b7):(i*b7+j)/b7=i/\(i*b7+j)%b7=j:=by
 constructor
 ·rw[Nat.add_comm,Nat.add_mul_div_right _ _ (by omega),Nat.div_eq_of_lt h,Nat.zero_add]
 ·rw[Nat.add_comm,Nat.add_mul_mod_self_right,Nat.mod_eq_of_lt h]
theorem AeH (hm:GR B S w0 m) {av:AV} {v:Value} (hc:CV B S m av v) {ys:List (List AV)} (he:MV m.own av=some ys) {b7:Nat} (hz : ∀ e∈ys,e.length=b7) (h0:0<b7) :
  ∃ ad cap news,v = .slice ad ys.length cap/\zF B S m b7 ys ad news:=by
 cases av with
 | sl l es =>
  simp only[MV,Option.some.injEq]at he;subst he;cases AbL hc with
  | rm _ ad cap=>exact ⟨ad,cap,[],rfl,by simp,λ b _ j v hv=>by simp at hv,λ h=>absurd rfl h,λ i cs hi=>by simp at hi⟩
  | sl _ _ b ob dh cap uu Fj hp hR gu ri ag hr =>
   have Zn:dh=b7:=by
    cases es with
    | nil=>exact absurd rfl Fj
    | cons q r=>rw[<-ri q (by simp),hz q (by simp)]
   subst Zn;refine ⟨some ⟨b,ob,none⟩,cap,(List.range (es.length*dh)).map (λ k=>uu (k/dh) (k%dh)),rfl,by simp,λ b' o8 j v hv => ?_,λ_=>rfl,λ i cs hi j c hj => ?_⟩
   ·obtain rfl:(⟨b,ob,none⟩:Addr)=b':=by simpa using o8
    rw[List.getElem?_map]at hv;have my:j<es.length*dh:=by
     rcases Nat.lt_or_ge j (es.length*dh) with h|h
     ·exact h
     ·rw[List.getElem?_eq_none (by simpa using h)]at hv;cases hv
    rw[List.getElem?_range my]at hv;simp only[Option.map_some,Option.some.injEq]at hv;subst hv;have hd:j/dh<es.length:=Nat.div_lt_of_lt_mul (by rw[Nat.mul_comm];exact my);have Qg:j%dh<dh:=Nat.mod_lt _ h0;have lk:(es[j/dh]).length=dh:=ri _ (List.getElem_mem hd);have:=ag (j/dh) _ (zE hd) (j%dh) _ (zE (by rw[lk];exact Qg))
    rw[WC,<-this];congr 2;have:=Nat.div_add_mod j dh
    rw[Nat.mul_comm]at this;omega
   ·have my:j<dh:=by rw[<-ri cs (zM hi)];exact (zS hj).1
    have qg:i<es.length:=(zS hi).1;have o5:i*dh+j<es.length*dh:=by
     have:(i+1)*dh<=es.length*dh:=zR _ qg
     rw[Nat.succ_mul]at this;omega
    obtain ⟨e1,e2⟩:=ArN dh i j my;refine ⟨uu i j,?_,.rd (hr i cs hi j c hj)⟩;rw[List.getElem?_map,List.getElem?_range o5];simp [e1,e2]
 | nil =>
  simp only[MV,Option.some.injEq]at he;subst he;exact ⟨none,0,[],wO hc,by simp,λ b hb=>(by cases hb),λ h=>absurd rfl h,λ i cs hi=>by simp at hi⟩
 | row s t z off len =>
  obtain ⟨ad,cap,hv,ht,jm,su,ha,hb⟩:=wV hc;simp only[MV]at he;cases z9:m.own.get s t with
  | none=>simp [z9]at he
  | some b =>
   simp only[z9]at he;split at he
   ·rename_i hle
    obtain ⟨hle,Bc⟩:=hle;obtain rfl:=Option.some.inj he;have hyl:((b.es.drop off).take len).length=len:=by simp;omega
    obtain ⟨_,lu⟩:=hb b z9;by_cases Ez:len=0
    ·subst Ez
     refine ⟨ad,cap,[],by simpa using hv,by simp,λ b _ j v hv=>by simp at hv,λ h=>absurd (by simp) h,λ i cs hi=>by simp at hi⟩
    ·rcases lu with ⟨h1,_⟩|⟨g,arr,e',hg,uh,hh',AV3⟩
     ·exact absurd h1 Ez
     ·obtain ⟨ri,jy⟩:=hm.k8 s t b z9
      rw[hg]at jy;obtain ⟨hB,Dz,e2,Lc,fi⟩:=jy;rw[hh']at Lc;obtain ⟨rfl,rfl⟩:arr=Dz/\e'=e2:=by simpa using Lc
      have hez:b7=z:=by
       have o5:off<b.es.length:=by omega
       have h1:b.es[off]∈(b.es.drop off).take len:=by
        have:((b.es.drop off).take len)[0]? = some b.es[off]:=by
         rw[List.getElem?_take,if_pos (by omega),List.getElem?_drop];simp [o5]
        exact zM this
       rw[<-hz _ h1,ri _ (List.getElem_mem o5),Bc]
      subst hez;have di:off*b7+len*b7<=arr.size:=by
       have:(off+len)*b7<=(off+cap)*b7:=zR _ (by omega)
       rw[Nat.add_mul]at this;omega
      refine ⟨ad,cap,(arr.toList.drop (off*b7)).take (len*b7),by rw[hyl];exact hv,by rw[hyl];simp;omega,λ b' o8 j v ql => ?_,λ_=>by rw[uh];rfl,λ i cs hi j c hj => ?_⟩
      ·rw[uh]at o8
       obtain rfl:(⟨g,off*b7,none⟩:Addr)=b':=by simpa using o8
       rw[List.getElem?_take]at ql;split at ql
       ·rw[List.getElem?_drop]at ql
        rw[WC,AbC hh'];simpa using ql
       ·cases ql
      ·rw[List.getElem?_take]at hi
       split at hi
       ·rename_i qg
        rw[List.getElem?_drop]at hi;have my:j<b7:=by rw[<-Bc,<-ri cs (zM hi)];exact (zS hj).1
        obtain ⟨u,hu,mq⟩:=fi (off+i) cs hi j c hj;refine ⟨u,?_,mq⟩;have o5:i*b7+j<len*b7:=by
         have:(i+1)*b7<=len*b7:=zR _ qg
         rw[Nat.succ_mul]at this;omega
        rw[List.getElem?_take,if_pos o5,List.getElem?_drop,<-hu,Bc];simp only[Array.getElem?_toList];congr 1;rw[Nat.add_mul];omega
       ·cases hi
   ·cases he
 | gx v' =>
  cases v' with
  | bool b =>
   simp only[MV,Option.some.injEq]at he;subst he;obtain ⟨ad,cap,hv,_⟩:=AiQ hc;exact ⟨ad,cap,[],hv,by simp,λ b' o8 j v ql=>by simp at ql,λ h=>absurd rfl h,λ i cs hi=>by simp at hi⟩
  | _=>simp [MV]at he
 | _=>simp [MV]at he
theorem zF.one {b7:Nat} {ys:List (List AV)} {ad:Option Addr} {news:List Value} (h:zF B S m b7 ys ad news) (h0:0<b7) (hz : ∀ e∈ys,e.length=b7) : ∀ u∈news,u.oneCell'=true:=by
 intro u hu;obtain ⟨k,hk,rfl⟩:=List.getElem_of_mem hu;rw[h.len]at hk;have hd:k/b7<ys.length:=Nat.div_lt_of_lt_mul (by rw[Nat.mul_comm];exact hk);have Qg:k%b7<b7:=Nat.mod_lt _ h0;have lk:(ys[k/b7]).length=b7:=hz _ (List.getElem_mem hd);obtain ⟨u',ux,hc⟩:=h.rel (k/b7) _ (zE hd) (k%b7) _ (zE (by rw[lk];exact Qg));have yl:k/b7*b7+k%b7=k:=by
  have:=Nat.div_add_mod k b7
  rw[Nat.mul_comm]at this;exact this
 rw[yl]at ux;obtain rfl:news[k]=u':=by
  have:=(zS ux).2
  exact this
 exact hc.one
theorem zF.src {b7:Nat} {ys:List (List AV)} {ad:Option Addr} {news:List Value} (h:zF B S m b7 ys ad news) (h0:0<b7) (hz : ∀ e∈ys,e.length=b7) {t e:TypeId} (hu:P.underlying t=some (.slice e)) (cap:Nat):Src P b7 t (.slice ad ys.length cap) ys.length news m.w:=by
 cases ad with
 | none =>
  have Jo:ys=[]:=by
   cases ys with
   | nil=>rfl
   | cons y r=>exact absurd (h.some_ (by simp)) (by simp)
  subst Jo;have hn:news=[]:=List.eq_nil_of_length_eq_zero (by simpa using h.len);subst hn;exact Src.ofNil m.w hu cap
 | some b=>exact Src.ofSlice m.w hu b ys.length cap news h.len (h.cells b rfl) (h.one h0 hz)
theorem AvV (arr:Array Value) (off:Nat) (news:List Value) (h:off+news.length<=arr.size) (p:Nat):(arr.toList.take off++news++arr.toList.drop (off+news.length)).toArray[p]? = if p<off then arr[p]? else if p<off+news.length then news[p-off]? else arr[p]? := by
 simp only[List.getElem?_toArray];rw[AgU _ _ _ (by simpa using h)];simp only[Array.getElem?_toList]
theorem AwI (t tx e ex:TypeId) (i:TypeInfo) (ht:P.underlying t=some (.slice e)) (hx:P.underlying tx=some (.slice ex)) (hi:P.info? e=some i) (g off Ap Dc:Nat) (x:Value) (n:Nat) (news:List Value) (w:World) (hs:Src P i.size tx x n news w) (xp:Ap+n<=Dc) (arr:Array Value) (e':TypeId)
  (hh:w.heap[g]? = some (.cells arr e' (0,0))) (di:off+Ap*i.size+news.length<=arr.size) (ty:TypeId) :
  (Builtin.append_ #[t,tx] ty #[.slice (some ⟨g,off,none⟩) Ap Dc,x]).run P w = .ok (.slice (some ⟨g,off,none⟩) (Ap+n) Dc) (w.setRow g (arr.toList.take (off+Ap*i.size)++news++arr.toList.drop (off+Ap*i.size+news.length)).toArray):=by
 have o4:=run_storeCells_at (P:=P) g (off+Ap*i.size) e' news 0 arr w hh (by omega) hs.one;simp only[Nat.add_zero]at o4;simp [Builtin.append_,run_underlying ht,run_underlying hx,sizeOf,typeInfo,hi,hs.len,xp,hs.cells,WC,o4]
theorem Am8 (t tx e ex:TypeId) (i:TypeInfo) (ht:P.underlying t=some (.slice e)) (hx:P.underlying tx=some (.slice ex)) (hi:P.info? e=some i) (ad:Option Addr) (Dc:Nat) (x:Value) (w:World) (hs:Src P i.size tx x 0 [] w) (ty:TypeId) :
  (Builtin.append_ #[t,tx] ty #[.slice ad 0 Dc,x]).run P w = .ok (.slice ad 0 Dc) w:=by
 have hc:=hs.cells;cases ad<;>simp [Builtin.append_,run_underlying ht,run_underlying hx,sizeOf,typeInfo,hi,hs.len,hc,storeCells]
theorem Tj {x y:Operand} {t tx:TypeId} (o9:o.op = .call ⟨.builtin .append,#[x,y],#[t,tx]⟩) {u:Value} {w w':World} (h:(Builtin.append_ #[t,tx] o.type #[a.eval x,a.eval y]).run P w = .ok u w'):(execOp a.eval o).run P w = .ok (.value u) w':=by
 simp [execOp,o9,resolve,invoke,builtin,h]
theorem Auo (jn news:List Value) (z:Array Value) (k p:Nat) (h:p<jn.length+news.length):((jn++news).toArray++Builtin.zeroCells z k)[p]? = (jn++news)[p]? := by
 rw[Array.getElem?_append_left (by simpa using h)];simp
theorem Awx {b7 len:Nat} {xs ys:List (List AV)} {jn news:List Value} (hxl:xs.length=len) (hol:jn.length=len*b7) (hzx : ∀ e∈xs,e.length=b7)
  (hx : ∀ i cs,xs[i]? = some cs -> ∀ j c,cs[j]? = some c -> ∃ u,jn[i*b7+j]? = some u/\CC B S m c u)
  (hy : ∀ i cs,ys[i]? = some cs -> ∀ j c,cs[j]? = some c -> ∃ u,news[i*b7+j]? = some u/\CC B S m c u) :
  ∀ i cs,(xs++ys)[i]? = some cs -> ∀ j c,cs[j]? = some c -> ∃ u,(jn++news)[i*b7+j]? = some u/\CC B S m c u:=by
 intro i cs hi j c hj;by_cases qg:i<len
 ·rw[List.getElem?_append_left (by omega)]at hi
  obtain ⟨u,hu,hc⟩:=hx i cs hi j c hj;exact ⟨u,by rw[List.getElem?_append_left (by have:=(zS hu).1;omega)];exact hu,hc⟩
 ·rw[List.getElem?_append_right (by omega),hxl]at hi
  obtain ⟨u,hu,hc⟩:=hy (i-len) cs hi j c hj;refine ⟨u,?_,hc⟩;have e1:i*b7=len*b7+(i-len)*b7:=by rw[<-Nat.add_mul];congr 1;omega
  rw[List.getElem?_append_right (by omega),<-hu];congr 1;omega
theorem Ame {s z n cap:Nat} {es:List (List AV)} {w':World} {g t:Nat} {arr:Array Value} {e:TypeId} (hz:0<z) (hn:n<=cap) (hg:w'.heap[g]? = some (.cells arr e (0,0))) (hc:cap*z<=arr.size) :
  CV B S ⟨l6 m s (some g),m.own.put s (((m.own s).cr t none).new ⟨z,es⟩),w'⟩ (.row s (m.own.k9 s) z 0 n) (.slice (some ⟨g,0,none⟩) n cap):=by
 refine .ca (.one (.row s (m.own.k9 s) z 0 n _ cap ?_ hz hn (λ_=>rfl) λ b' o8=>⟨?_,.inr ⟨g,arr,e,?_,by simp,hg,by simpa using hc⟩⟩))
 ·show _<C2.k9 _ s
  rw[AbH];simp
 ·change C2.get _ s _=some b' at o8
  rw[uC,if_pos ⟨rfl,rfl⟩]at o8;obtain rfl:(⟨z,es⟩:LS)=b':=by simpa using o8
  rfl
 ·simp [l6]
theorem AqN (hm:GR B S w0 m) (ob:Obj):Below B w0 (m.w.drew.alloc ob):=hm.below.drew.alloc (by simpa using hm.size) ob
theorem ArU (hm:GR B S w0 m) (hs:I0 B S m ρ a.eval) {s b7 bytes:Nat} {x' y':C4} (h:FW P num o.op (.app s b7 bytes x' y')=true) {ys:List (List AV)} (hy:MV m.own (ρ y')=some ys) (hz : ∀ e∈ys,e.length=b7) {s' t len:Nat} {b:LS} (hx:ρ x' = .row s' t b7 0 len) (z9:m.own.get s' t=some b)
  (Bc:b.b7=b7) (hle:len<=b.es.length) (xp:(len+ys.length)*bytes<=NR) (h63:len+ys.length<=9223372036854775807) :
  I9 B S w0 P o a m (.mn (.row s' (m.own.k9 s') b7 0 (len+ys.length)) (m.own.put s' (((m.own s').cr t none).new ⟨b7,b.es.take len++ys⟩))):=by
 obtain ⟨x,y,ty,e,i,z,tx,ex,o9,h1,h2,hu,hi,di,Ej,jm,ri,u5,Qm⟩:=Alk h;have h0:0<b7:=Nat.pos_of_ne_zero u5;obtain ⟨ad,cap,iv,ht,_,su,ha,hb⟩:=wV (hx ▸ hs x x' h1);obtain ⟨Lu,tp,news,Hi,lk⟩:=AeH hm (hs y y' h2) hy hz h0;have xu:Src P i.size tx (.slice Lu ys.length tp) ys.length news m.w:=by rw[di];exact lk.src h0 hz Qm tp
 obtain ⟨Ku,jy⟩:=hm.k8 s' t b z9;obtain ⟨_,lu⟩:=hb b z9;have te:(b.es.take len).length=len:=by simp;omega
 have Lr : ∀ q∈b.es.take len++ys,q.length=b7:=λ q hq=>by
  rcases List.mem_append.1 hq with hq|hq
  ·rw[<-Bc];exact Ku q (List.mem_of_mem_take hq)
  ·exact hz q hq
 intro K Q hK;by_cases xi:len+ys.length<=cap
 ·rcases lu with ⟨Ez,qy⟩|⟨g,arr,e',hg,uh,hh,hcz⟩
  ·have Jo:ys=[]:=List.eq_nil_of_length_eq_zero (by omega)
   subst Jo;subst Ez qy;have Ac:news=[]:=List.eq_nil_of_length_eq_zero (by simpa using lk.len);subst Ac;have cp:=Am8 ty tx e ex i hu Qm hi ad 0 (.slice Lu 0 tp) m.w (by simpa using xu) o.type;obtain ⟨k1,k2⟩:=AfI hm s' t b ⟨b7,b.es.take 0++[]⟩ z9 none m.w hm.below (Nat.le_refl _) (λ_ _ _=>rfl) (by simp) (by simp) (by simp);refine qV (Tj o9 (by rw[iv,Hi];simpa using cp)) (hK _ ⟨l6 m s' none,m.own.put s' (((m.own s').cr t none).new ⟨b7,b.es.take 0++[]⟩),m.w⟩ rfl k1 k2 (.ca (.one (.row s' (m.own.k9 s') b7 0 0 ad 0 ?_ h0 (Nat.le_refl _) (λ h=>by omega) λ b' o8=>⟨?_,.inl ⟨rfl,rfl⟩⟩))))
   ·show _<C2.k9 _ s'
    rw[AbH];simp
   ·change C2.get _ s' _=some b' at o8
    rw[uC,if_pos ⟨rfl,rfl⟩]at o8;obtain rfl:(⟨b7,b.es.take 0++[]⟩:LS)=b':=by simpa using o8
    rfl
  ·have Mr:ad=some ⟨g,0,none⟩:=by simpa using uh
   rw[hg]at jy;obtain ⟨hB,Dz,e2,Lc,fi⟩:=jy;rw[hh]at Lc;obtain ⟨rfl,rfl⟩:arr=Dz/\e'=e2:=by simpa using Lc
   have mf:news.length=ys.length*b7:=lk.len;have hbound:len*b7+news.length<=arr.size:=by
    have:(len+ys.length)*b7<=(0+cap)*b7:=zR _ (by omega)
    rw[Nat.add_mul]at this;omega
   have cp:=AwI ty tx e ex i hu Qm hi g 0 len cap (.slice Lu ys.length tp) ys.length news m.w xu xi arr e' hh (by rw[di];omega) o.type;rw[di,Nat.zero_add]at cp;generalize wm:(arr.toList.take (len*b7)++news++arr.toList.drop (len*b7+news.length)).toArray=df at cp;have lq : ∀ p,df[p]? = if p<len*b7 then arr[p]? else if p<len*b7+news.length then news[p-len*b7]? else arr[p]? := λ p=>by rw[<-wm];exact AvV arr (len*b7) news hbound p
   have Ah:df.size=arr.size:=by rw[<-wm];simp;omega
   obtain ⟨k1,k2⟩:=AfI hm s' t b ⟨b7,b.es.take len++ys⟩ z9 (some g) (m.w.setRow g df) (Aig hm hB df) (by simp) (λ k _ Fj=>setRow_other _ _ _ _ (λ e=>Fj (e ▸ hg))) Lr (by simp) (λ g' ub=>by
    obtain rfl:g=g':=by simpa using ub
    refine ⟨hB,.inr hg,df,e',setRow_heap _ _ _ _ _ _ hh,λ i' cs bu j c hj => ?_⟩;show ∃ u,df[i'*b7+j]? = some u/\_;by_cases qg:i'<len
    ·rw[List.getElem?_append_left (by omega),List.getElem?_take,if_pos qg]at bu
     have my:j<b7:=by rw[<-Bc,<-Ku cs (zM bu)];exact (zS hj).1
     obtain ⟨u,ux,mq⟩:=fi i' cs bu j c hj;refine ⟨u,?_,mq⟩;have:(i'+1)*b7<=len*b7:=zR _ qg
     rw[Nat.succ_mul]at this;rw[lq,if_pos (by omega),<-ux,Bc]
    ·rw[List.getElem?_append_right (by omega),te]at bu
     obtain ⟨u,ux,mq⟩:=lk.rel (i'-len) cs bu j c hj;refine ⟨u,?_,mq⟩;have yu:=(zS ux).1;have e1:i'*b7=len*b7+(i'-len)*b7:=by rw[<-Nat.add_mul];congr 1;omega
     rw[lq,if_neg (by omega),if_pos (by omega),<-ux];congr 1;omega)
   exact qV (Tj o9 (by rw[iv,Hi,Mr];exact cp)) (hK _ ⟨l6 m s' (some g),m.own.put s' (((m.own s').cr t none).new ⟨b7,b.es.take len++ys⟩),m.w.setRow g df⟩ rfl k1 k2 (Ame h0 xi (setRow_heap _ _ _ _ _ _ hh) (by rw[Ah];simpa using hcz)))
 ·have Lb:cap<len+ys.length:=by omega
  obtain ⟨jn,hol,hold,Yw⟩ : ∃ jn:List Value,jn.length=len*b7/\(Builtin.firstCells i.size len (.slice ad len cap)).run P m.w.drew = .ok jn.toArray m.w.drew/\(∀ i' cs,(b.es.take len)[i']? = some cs -> ∀ j c,cs[j]? = some c -> ∃ u,jn[i'*b7+j]? = some u/\CC B S m c u):=by
   rcases lu with ⟨Ez,qy⟩|⟨g,arr,e',hg,uh,hh,hcz⟩
   ·subst Ez
    refine ⟨[],by simp,?_,λ i' cs bu=>by simp at bu⟩;cases ad with
    | none=>exact run_firstCells_none m.w.drew i.size 0 0 cap
    | some Pf=>exact run_firstCells_some m.w.drew i.size 0 Pf 0 cap [] (by simp) (λ j v hv=>by simp at hv)
   ·have Mr:ad=some ⟨g,0,none⟩:=by simpa using uh
    rw[hg]at jy;obtain ⟨hB,Dz,e2,Lc,fi⟩:=jy;rw[hh]at Lc;obtain ⟨rfl,rfl⟩:arr=Dz/\e'=e2:=by simpa using Lc
    have ag:len*b7<=arr.size:=by
     have:len*b7<=(0+cap)*b7:=zR _ (by omega)
     omega
    refine ⟨arr.toList.take (len*b7),by simp;omega,?_,λ i' cs bu j c hj => ?_⟩
    ·rw[Mr]
     refine run_firstCells_some m.w.drew i.size len ⟨g,0,none⟩ len cap _ (by rw[di];simp;omega) (λ j v hv => ?_);rw[List.getElem?_take]at hv;split at hv
     ·rw[WC,AbC (w:=m.w.drew) (show m.w.heap[g]? = _ from hh)]
      simpa using hv
     ·cases hv
    ·rw[List.getElem?_take]at bu
     split at bu
     ·rename_i qg
      have my:j<b7:=by rw[<-Bc,<-Ku cs (zM bu)];exact (zS hj).1
      obtain ⟨u,ux,mq⟩:=fi i' cs bu j c hj;refine ⟨u,?_,mq⟩;have:(i'+1)*b7<=len*b7:=zR _ qg
      rw[Nat.succ_mul]at this;rw[List.getElem?_take,if_pos (by omega),<-ux,Bc];simp
     ·cases bu
  have cp:=run_append_grow_src (P:=P) m.w ty tx o.type e i z hu hi jm ad len cap jn hold (.slice Lu ys.length tp) ys.length news xu Lb (by omega) (growslice_fits Lb (by rw[Ej];exact xp));have mf:news.length=ys.length*b7:=lk.len;have gu:len+ys.length<=grownCap m.w (len+ys.length) cap e:=grownCap_ge _ _ _ _;generalize hgc:grownCap m.w (len+ys.length) cap e=gc at cp gu;have qu:=AqN hm (.cells ((jn++news).toArray++Builtin.zeroCells z.cells (gc-(len+ys.length))) e);have rh:(m.w.drew.alloc (.cells ((jn++news).toArray++Builtin.zeroCells z.cells (gc-(len+ys.length))) e)).heap[m.w.heap.size]? = some (.cells ((jn++news).toArray++Builtin.zeroCells z.cells (gc-(len+ys.length))) e (0,0)):=heap_alloc_new m.w.drew _;obtain ⟨k1,k2⟩:=AfI hm s' t b ⟨b7,b.es.take len++ys⟩ z9 (some m.w.heap.size) _ qu (by simp) (λ k hk _=>Below.heap_alloc m.w.drew _ k hk) Lr (by simp) (λ g' ub=>by
   obtain rfl:m.w.heap.size=g':=by simpa using ub
   refine ⟨hm.size,.inl (Nat.le_refl _),_,e,rh,λ i' cs bu j c hj => ?_⟩;obtain ⟨u,ux,mq⟩:=Awx te hol (λ q hq=>by rw[<-Bc];exact Ku q (List.mem_of_mem_take hq)) Yw lk.rel i' cs bu j c hj;refine ⟨u,?_,mq⟩;rw[Auo _ _ _ _ _ (by have:=(zS ux).1;simpa using this)];exact ux)
  refine qV (Tj o9 (by rw[iv,Hi];exact cp)) (hK _ ⟨l6 m s' (some m.w.heap.size),m.own.put s' (((m.own s').cr t none).new ⟨b7,b.es.take len++ys⟩),_⟩ rfl k1 k2 (Ame h0 gu rh ?_));have Jr:(Builtin.zeroCells z.cells (gc-(len+ys.length))).size=(gc-(len+ys.length))*b7:=by simp [Builtin.zeroCells,ri]
  rw[Array.size_append,Jr];simp only[List.size_toArray,List.length_append,hol,mf];rw[<-Nat.add_mul,<-Nat.add_mul];exact zR _ (by omega)
theorem ArT (hm:GR B S w0 m) (hs:I0 B S m ρ a.eval) {s b7 bytes:Nat} {x' y':C4} (h:FW P num o.op (.app s b7 bytes x' y')=true) {ys:List (List AV)} (hy:MV m.own (ρ y')=some ys) (hz : ∀ e∈ys,e.length=b7) (hx:ρ x' = .nil)
  (xp:ys.length*bytes<=NR) (h63:ys.length<=9223372036854775807) :
  I9 B S w0 P o a m (.mn (.row s (m.own.k9 s) b7 0 ys.length) (m.own.put s ((m.own s).new ⟨b7,ys⟩))):=by
 obtain ⟨x,y,ty,e,i,z,tx,ex,o9,h1,h2,hu,hi,di,Ej,jm,ri,u5,Qm⟩:=Alk h;have h0:0<b7:=Nat.pos_of_ne_zero u5;have iv:=wO (hx ▸ hs x x' h1);obtain ⟨Lu,tp,news,Hi,lk⟩:=AeH hm (hs y y' h2) hy hz h0;have xu:Src P i.size tx (.slice Lu ys.length tp) ys.length news m.w:=by rw[di];exact lk.src h0 hz Qm tp
 intro K Q hK;by_cases Jo:ys=[]
 ·subst Jo
  have Ac:news=[]:=List.eq_nil_of_length_eq_zero (by simpa using lk.len);subst Ac;have cp:=Am8 ty tx e ex i hu Qm hi none 0 (.slice Lu 0 tp) m.w (by simpa using xu) o.type;obtain ⟨k1,k2⟩:=Aot hm s b7;refine qV (Tj o9 (by rw[iv,Hi];simpa using cp)) (hK _ ⟨l6 m s none,m.own.put s ((m.own s).new ⟨b7,[]⟩),m.w⟩ rfl k1 k2 (.ca (.one (.row s (m.own.k9 s) b7 0 0 none 0 ?_ h0 (Nat.le_refl _) (λ h=>by omega) λ b' o8=>⟨?_,.inl ⟨rfl,rfl⟩⟩))))
  ·show _<C2.k9 _ s
   rw[dJ];simp
  ·change C2.get _ s _=some b' at o8
   rw[PX,if_pos ⟨rfl,rfl⟩]at o8;obtain rfl:(⟨b7,[]⟩:LS)=b':=by simpa using o8
   rfl
 ·have AEw:0<ys.length:=List.length_pos_iff.2 Jo
  have cp:=run_append_grow_src (P:=P) m.w ty tx o.type e i z hu hi jm none 0 0 [] (run_firstCells_none m.w.drew i.size 0 0 0) (.slice Lu ys.length tp) ys.length news xu (by omega) (by omega) (growslice_fits (by omega) (by rw[Ej,Nat.zero_add];exact xp));simp only[Nat.zero_add,List.nil_append]at cp;have mf:news.length=ys.length*b7:=lk.len;have gu:ys.length<=grownCap m.w ys.length 0 e:=grownCap_ge _ _ _ _;generalize hgc:grownCap m.w ys.length 0 e=gc at cp gu;have hd:Below m.w.heap.size m.w m.w.drew:=(Below.refl _ _).drew;obtain ⟨oa,Yc⟩:=grow hm hd;obtain ⟨k1,k2⟩:=AdF oa s ⟨b7,ys⟩ (news.toArray++Builtin.zeroCells z.cells (gc-ys.length)) e hz (λ i' cs bu j c hj=>by
   obtain ⟨u,ux,mq⟩:=lk.rel i' cs bu j c hj;refine ⟨u,?_,Yc.cc mq⟩;have yu:=(zS ux).1;show (news.toArray++Builtin.zeroCells z.cells (gc-ys.length))[i'*b7+j]? = some u;rw[Array.getElem?_append_left (by simpa using yu)];simpa using ux)
  have Jr:(Builtin.zeroCells z.cells (gc-ys.length)).size=(gc-ys.length)*b7:=by simp [Builtin.zeroCells,ri]
  refine qV (Tj o9 (by rw[iv,Hi];exact cp)) (hK _ ⟨l6 ⟨m.ν,m.own,m.w.drew⟩ s (some m.w.drew.heap.size),m.own.put s ((m.own s).new ⟨b7,ys⟩),_⟩ rfl k1 (Yc.trans k2) (Amh (m:=⟨m.ν,m.own,m.w.drew⟩) h0 gu (heap_alloc_new m.w.drew _) ?_));rw[Array.size_append,Jr];simp only[List.size_toArray,mf];rw[<-Nat.add_mul];exact zR _ (by omega)
end
end Go.c9
namespace Go.c9
open Go.RowKit
section
variable {B:Nat} {S:Nat->Prop} {w0:World} {m:M}
variable {P:Program} {num:Nat->Nat} {o:Oper} {a:Act} {ρ:C4->AV}
structure QY (P:Program) (num:Nat->Nat) (C:Cl):Prop where
 Eb : ∀ (f:Nat) (vs:List AV) (r:AV),C.pure f vs=some r -> ∀ (us:Array Value) (w:World),(callFunc (num f) us).run P w = .ok (.enter (num f) us) w
 zm : ∀ (f:Nat) (vs:List AV) (own:C2) (r:AV × C2),C.pt f vs own=some r -> ∀ (us:Array Value) (w:World),(callFunc (num f) us).run P w = .ok (.enter (num f) us) w
 pure : ∀ (f:Nat) (vs:List AV) (r:AV),C.pure f vs=some r -> ∀ (S:Nat->Prop) (w:World) (us:List Value),vs.length=us.length->(∀ (j:Nat) (c:AV) (v:Value),vs[j]? = some c->us[j]? = some v->CA w.heap.size S ⟨λ_ _=>none,C2.emp,w⟩ c v) ->
  Calls P (num f) us.toArray w λ e w' => ∃ u,e = .returned u/\Below w.heap.size w w'/\CV w.heap.size S ⟨λ_ _=>none,C2.emp,w'⟩ r u/\EA r
 pt : ∀ (f:Nat) (vs:List AV) (own:C2) (r:AV) (q8:C2),C.pt f vs own=some (r,q8) -> ∀ (B:Nat) (S:Nat->Prop) (w0:World) (m:M) (us:List Value),m.own=own->GR B S w0 m->vs.length=us.length->(∀ (j:Nat) (c:AV) (v:Value),vs[j]? = some c->us[j]? = some v->CV B S m c v) ->
  Calls P (num f) us.toArray m.w λ e w' => ∃ u m',e = .returned u/\m'.w=w'/\m'.own=q8/\GR B S w0 m'/\J8 B S m m'/\CV B S m' r u
 num:C.num=num
end
end Go.c9

namespace Go.c9
open Go.RowKit
theorem qJ {α β:Type} (f:α->Option β) : ∀ {l:List α} {l':List β},l.mapM f=some l'->l.length=l'.length /\ ∀ (i:Nat) (x:α),l[i]? = some x -> ∃ y,l'[i]? = some y/\f x=some y
 | [],l',h=>by
  simp at h;subst h;exact ⟨rfl,λ i x hx=>by simp at hx⟩
 | x::r,l',h=>by
  simp only[List.mapM_cons,Option.bind_eq_bind,Option.pure_def]at h;cases hx:f x with
  | none=>simp [hx]at h
  | some y =>
   cases hr:r.mapM f with
   | none=>simp [hx,hr]at h
   | some r' =>
    simp [hx,hr]at h;subst h;obtain ⟨h1,h2⟩:=qJ f hr;refine ⟨by simp [h1],λ i z hz => ?_⟩;cases i with
    | zero=>simp at hz;subst hz;exact ⟨y,rfl,hx⟩
    | succ i=>exact h2 i z (by simpa using hz)
section
variable {B:Nat} {S:Nat->Prop} {w0:World} {m:M}
variable {P:Program} {num:Nat->Nat} {o:Oper} {a:Act} {ρ:C4->AV}
theorem Any (hm:GR B S w0 m) (l0:Bool) (R:Bool->Nat->Prop) (hR : ∀ l b,b<m.w.heap.size->safe B S m l b->R l b) (hL : ∀ s t g,live m s t->m.ν s t=some g->R l0 g) :
  ∀ (d:Nat) (c c':AV) (v:Value),snap m.own l0 d c=some c'->CC B S m c v->Rd m.w R c' v:=by
 intro d;induction d with
 | zero =>
  intro c c' v h hc;cases hc with
  | rd hr =>
   have:c'=c:=by cases hr<;>simp [snap]at h<;>exact h.symm
   subst this;exact hr.mono hR (λ_ _ _ _=>rfl)
  | nil=>simp [snap]at h;subst h;exact .rm _ _ _
  | _=>simp [snap]at h
 | succ d ih =>
  intro c c' v h hc;cases hc with
  | rd hr =>
   have:c'=c:=by cases hr<;>simp [snap]at h<;>exact h.symm
   subst this;exact hr.mono hR (λ_ _ _ _=>rfl)
  | nil=>simp [snap]at h;subst h;exact .rm _ _ _
  | ptr=>simp [snap]at h
  | db=>simp [snap]at h
  | row s t z off len ad cap ht jm su ha hb =>
   simp only[snap]at h;cases lk:MV m.own (.row s t z off len) with
   | none=>simp [lk]at h
   | some es =>
    simp only[lk]at h;cases qz:es.mapM (λ cs:List AV=>cs.mapM (snap m.own l0 d)) with
    | none=>simp [qz]at h
    | some es' =>
     simp [qz]at h;subst h;have AEZ:(∀ e∈es,e.length=z)/\es.length=len /\ ∃ b,m.own.get s t=some b:=by
      simp only[MV]at lk;cases z9:m.own.get s t with
      | none=>simp [z9]at lk
      | some b =>
       simp only[z9]at lk;split at lk
       ·rename_i hle
        obtain rfl:=Option.some.inj lk;refine ⟨λ e he => ?_,by simp;omega,b,rfl⟩;rw[<-hle.2];exact (hm.k8 s t b z9).1 e (List.mem_of_mem_drop (List.mem_of_mem_take he))
       ·cases lk
     obtain ⟨hz,hlen,b,z9⟩:=AEZ;have du:CV B S m (.row s t z off len) (.slice ad len cap):= .ca (.one (.row s t z off len ad cap ht jm su ha hb));obtain ⟨ad2,ADi,news,hv2,hE⟩:=AeH hm du lk hz jm;obtain ⟨rfl,_,rfl⟩:ad=ad2/\len=es.length/\cap=ADi:=by simpa using hv2
     obtain ⟨na,Ex⟩:=qJ _ qz;by_cases h0:es=[]
     ·subst h0
      have:es'=[]:=List.eq_nil_of_length_eq_zero (by rw[<-na];rfl)
      subst this;have:len=0:=by rw[<-hlen];rfl
      subst this;exact .rm _ _ _
     ·obtain ⟨_,lu⟩:=hb b z9
      rcases lu with ⟨AV0,_⟩|⟨g,arr,e',hg,uh,hh,hcz⟩
      ·exact absurd (List.eq_nil_of_length_eq_zero (by omega)) h0
      ·rw[uh,<-hlen,na]
       refine .sl l0 es' g (off*z) z cap (λ i j=>news.getD (i*z+j) undef) (λ e=>h0 (List.eq_nil_of_length_eq_zero (by rw[na,e];rfl))) jm (hL s t g ⟨b,z9⟩ hg) (by omega) (λ e' oz => ?_) (λ i e hi j c hj => ?_) (λ i e hi j c hj => ?_)
       ·obtain ⟨i,hi,rfl⟩:=List.getElem_of_mem oz
        have bu:i<es.length:=by omega
        obtain ⟨y,hy,ny⟩:=Ex i es[i] (zE bu);have:es'[i]=y:=by
         have:=(zS hy).2;exact this
        rw[this,<-(qJ _ ny).1];exact hz _ (List.getElem_mem bu)
       ·have bu:i<es.length:=by rw[na];exact (zS hi).1
        obtain ⟨y,hy,ny⟩:=Ex i es[i] (zE bu);rw[hi]at hy;obtain rfl:e=y:=by simpa using hy
        obtain ⟨pc,_⟩:=qJ _ ny;have Qa:j<(es[i]).length:=by rw[pc];exact (zS hj).1
        obtain ⟨u,hu,mq⟩:=hE.rel i es[i] (zE bu) j _ (zE Qa);have:=hE.cells _ uh (i*z+j) u hu
        rw[WC]at this;simp only[List.getD,hu,Option.getD_some];exact this
       ·have bu:i<es.length:=by rw[na];exact (zS hi).1
        obtain ⟨y,hy,ny⟩:=Ex i es[i] (zE bu);rw[hi]at hy;obtain rfl:e=y:=by simpa using hy
        obtain ⟨pc,ub⟩:=qJ _ ny;have Qa:j<(es[i]).length:=by rw[pc];exact (zS hj).1
        obtain ⟨u,hu,mq⟩:=hE.rel i es[i] (zE bu) j _ (zE Qa);obtain ⟨c2,Ek,Jg⟩:=ub j _ (zE Qa);rw[hj]at Ek;obtain rfl:c=c2:=by simpa using Ek
        simp only[List.getD,hu,Option.getD_some];exact ih _ _ _ Jg mq
def DA (w:World) (R:Bool->Nat->Prop) (c:AV) (v:Value):Prop :=
 Rd w R c v \/ ∃ (cs:List AV) (vs:List Value),c = .agg cs/\v = .agg vs.toArray/\cs.length=vs.length /\ ∀ (j:Nat) (x:AV) (u:Value),cs[j]? = some x->vs[j]? = some u->Rd w R x u
theorem AcX (hm:GR B S w0 m) (l0:Bool) (R:Bool->Nat->Prop) (hR : ∀ l b,b<m.w.heap.size->safe B S m l b->R l b) (hL : ∀ s t g,live m s t->m.ν s t=some g->R l0 g)
  {c c':AV} {v:Value} (h:JD m.own l0 c=some c') (hc:CV B S m c v):DA m.w R c' v:=by
 cases hc with
 | any v=>simp [JD,snap]at h
 | j5=>simp [JD,snap]at h
 | ca hc=>cases hc with
  | one hc =>
   have h':snap m.own l0 6 c=some c':=by
    cases hc with
    | rd hr=>cases hr<;>simpa [JD] using h
    | _=>simpa [JD] using h
   exact Or.inl (Any hm l0 R hR hL 6 c c' v h' hc)
  | fn=>simp [JD,snap]at h
  | Ec=>simp [JD,snap]at h
  | agg cs vs ag =>
   simp only[JD]at h;cases ua:cs.mapM (snap m.own l0 6) with
   | none=>simp [ua]at h
   | some lj =>
    simp [ua]at h;subst h;obtain ⟨h1,h2⟩:=qJ _ ua;refine Or.inr ⟨lj,vs,rfl,rfl,h1.symm.trans ag.1,λ j x u hx hu => ?_⟩;have hj:j<cs.length:=by rw[h1];exact (zS hx).1
    obtain ⟨y,hy,ny⟩:=h2 j cs[j] (zE hj);rw[hx]at hy;obtain rfl:x=y:=by simpa using hy
    exact Any hm l0 R hR hL 6 _ _ _ ny (ag.2 j cs[j] u (zE hj) hu)
def DV (w:World) (R:Bool->Nat->Prop) (c:AV) (v:Value):Prop :=
 DA w R c v \/ ∃ (cs:List AV) (vs:List Value),c = .j5 cs/\v = .tuple vs.toArray/\cs.length=vs.length /\ ∀ (j:Nat) (x:AV) (u:Value),cs[j]? = some x->vs[j]? = some u->DA w R x u
theorem Axf (hm:GR B S w0 m) (l0:Bool) (R:Bool->Nat->Prop) (hR : ∀ l b,b<m.w.heap.size->safe B S m l b->R l b) (hL : ∀ s t g,live m s t->m.ν s t=some g->R l0 g)
  {c c':AV} {v:Value} (h:sL m.own l0 c=some c') (hc:CV B S m c v):DV m.w R c' v:=by
 by_cases ht : ∃ cs,c = .j5 cs
 ·obtain ⟨cs,rfl⟩:=ht
  obtain ⟨vs,rfl,hl,fi⟩:=Ad9 hc;simp only[sL]at h;cases ua:cs.mapM (JD m.own l0) with
  | none=>simp [ua]at h
  | some lj =>
   simp [ua]at h;subst h;obtain ⟨h1,h2⟩:=qJ _ ua;refine Or.inr ⟨lj,vs,rfl,rfl,h1.symm.trans hl,λ j x u hx hu => ?_⟩;have hj:j<cs.length:=by rw[h1];exact (zS hx).1
   obtain ⟨y,hy,ny⟩:=h2 j cs[j] (zE hj);rw[hx]at hy;obtain rfl:x=y:=by simpa using hy
   exact AcX hm l0 R hR hL ny (.ca (fi j cs[j] u (zE hj) hu))
 ·have h':JD m.own l0 c=some c':=by
   cases c<;>first|exact h|exact absurd ⟨_,rfl⟩ ht
  exact Or.inl (AcX hm l0 R hR hL h' hc)
theorem DA.ca {B:Nat} {S:Nat->Prop} {m:M} {c:AV} {v:Value} (h:DA m.w (safe B S m) c v):CA B S m c v:=by
 rcases h with h|⟨cs,vs,rfl,rfl,hl,hh⟩
 ·exact .one (.rd h)
 ·exact .agg cs vs ⟨hl,λ j x u hx hu => .rd (hh j x u hx hu)⟩
theorem DV.cv {B:Nat} {S:Nat->Prop} {m:M} {c:AV} {v:Value} (h:DV m.w (safe B S m) c v):CV B S m c v:=by
 rcases h with h|⟨cs,vs,rfl,rfl,hl,hh⟩
 ·exact .ca h.ca
 ·exact .j5 cs vs hl λ j x u hx hu=>(hh j x u hx hu).ca
theorem nS : ∀ {cs:List AV},GK cs -> ∀ (j:Nat) (c:AV),cs[j]? = some c->EA c
 | [],_,j,c,h=>by simp at h
 | x::r,hc,j,c,h=>by
  unfold GK at hc;cases j with
  | zero=>simp at h;subst h;exact hc.1
  | succ j=>exact nS hc.2 j c (by simpa using h)
theorem AbF : ∀ {cs:List (List AV)},L3 cs -> ∀ (j:Nat) (c:List AV),cs[j]? = some c->GK c
 | [],_,j,c,h=>by simp at h
 | x::r,hc,j,c,h=>by
  unfold L3 at hc;cases j with
  | zero=>simp at h;subst h;exact hc.1
  | succ j=>exact AbF hc.2 j c (by simpa using h)
theorem Rd.clean {w:World} {R R':Bool->Nat->Prop} (hR : ∀ b,b<w.heap.size->R false b->R' false b) {c:AV} {v:Value} (h:Rd w R c v) (hc:EA c):Rd w R' c v:=by
 induction h with
 | int k n=>exact .int k n
 | bool b=>exact .bool b
 | str s=>exact .str s
 | uz=>exact .uz
 | rm l a cap=>exact .rm l a cap
 | emp b a cap h=>exact .emp b a cap h
 | sl l es b o b7 cap u u5 hp h1 gu hz ag hr ih =>
  unfold EA at hc;obtain ⟨rfl,hc⟩:=hc;obtain ⟨e,c,he,qy⟩:=Vn u5 hp hz;have hb:b<w.heap.size:=tL (ag 0 e he 0 c qy);exact .sl false es b o b7 cap u u5 hp (hR b hb h1) gu hz ag λ i e he j c hj=>ih i e he j c hj (nS (AbF hc i e he) j c hj)
theorem DA.clean {w:World} {R R':Bool->Nat->Prop} (hR : ∀ b,b<w.heap.size->R false b->R' false b) {c:AV} {v:Value} (h:DA w R c v) (hc:EA c):DA w R' c v:=by
 rcases h with h|⟨cs,vs,rfl,rfl,hl,hh⟩
 ·exact Or.inl (h.clean hR hc)
 ·unfold EA at hc
  exact Or.inr ⟨cs,vs,rfl,rfl,hl,λ j x u hx hu=>(hh j x u hx hu).clean hR (nS hc j x hx)⟩
theorem DV.clean {w:World} {R R':Bool->Nat->Prop} (hR : ∀ b,b<w.heap.size->R false b->R' false b) {c:AV} {v:Value} (h:DV w R c v) (hc:EA c):DV w R' c v:=by
 rcases h with h|⟨cs,vs,rfl,rfl,hl,hh⟩
 ·exact Or.inl (h.clean hR hc)
 ·unfold EA at hc
  exact Or.inr ⟨cs,vs,rfl,rfl,hl,λ j x u hx hu=>(hh j x u hx hu).clean hR (nS hc j x hx)⟩
theorem Ad8 {B:Nat} {S:Nat->Prop} {m:M} {c:AV} {v:Value} (h:CV B S m c v) (hc:EA c):DV m.w (safe B S m) c v:=by
 have one : ∀ {c:AV} {v:Value},CC B S m c v->EA c->Rd m.w (safe B S m) c v:=λ h hc=>by
  cases h with
  | rd h=>exact h
  | _=>unfold EA at hc;exact hc.elim
 have ca : ∀ {c:AV} {v:Value},CA B S m c v->EA c->DA m.w (safe B S m) c v:=λ h hc=>by
  cases h with
  | one h=>exact Or.inl (one h hc)
  | fn=>unfold EA at hc;exact hc.elim
  | Ec=>unfold EA at hc;exact hc.elim
  | agg cs vs h =>
   unfold EA at hc;exact Or.inr ⟨cs,vs,rfl,rfl,h.1,λ j x u hx hu=>one (h.2 j x u hx hu) (nS hc j x hx)⟩
 cases h with
 | any v=>unfold EA at hc;exact hc.elim
 | ca h=>exact Or.inl (ca h hc)
 | j5 as vs hl h =>
  unfold EA at hc;exact Or.inr ⟨as,vs,rfl,rfl,hl,λ j x u hx hu=>ca (h j x u hx hu) (nS hc j x hx)⟩
theorem AcI {f:Nat} {xs:Array Operand} {ts:Array TypeId} (o9:o.op = .call ⟨.value (.func f),xs,ts⟩) {w:World} (h:(callFunc f (xs.map a.eval)).run P w = .ok (.enter f (xs.map a.eval)) w):(execOp a.eval o).run P w = .ok (.enter f (xs.map a.eval)) w:=by
 simp [execOp,o9,resolve,Deferred.ofValue,Act.eval,invoke];exact h
theorem Ajb {C:Cl} (hC:QY P num C) (hm:GR B S w0 m) {f:Nat} {us:List Value} {as:List AV} (hl:us.length=as.length) (hx : ∀ (j:Nat) (v:Value) (c:AV),us[j]? = some v->as[j]? = some c->CV B S m c v) (hex : ∀ w:World,(callFunc (num f) us.toArray).run P w = .ok (.enter (num f) us.toArray) w->(execOp a.eval o).run P w = .ok (.enter (num f) us.toArray) w) {vs:List AV} {r:AV} (hv:as.mapM (JD m.own true)=some vs) (hr:C.pure f vs=some r):I9 B S w0 P o a m (.val r):=by
 obtain ⟨pc,ub⟩:=qJ _ hv;have tv : ∀ (j:Nat) (c:AV) (v:Value),vs[j]? = some c->us[j]? = some v->CA m.w.heap.size (safe B S m false) ⟨λ_ _=>none,C2.emp,m.w⟩ c v:=by
  intro j c v hc Cj;have my:j<as.length:=by rw[<-hl];exact (zS Cj).1
  obtain ⟨y,hy,ny⟩:=ub j as[j] (zE my);rw[hc]at hy;obtain rfl:c=y:=by simpa using hy
  have du:=hx j v as[j] Cj (zE my);have Mw:=AcX hm true (safe m.w.heap.size (safe B S m false) ⟨λ_ _=>none,C2.emp,m.w⟩) (λ l b hb Ji=>by
   cases l with
   | false=>exact .inl ⟨Ji,hb⟩
   | true=>exact .inr (.inr ⟨rfl,hb⟩)) (λ s t g pe hg=>by
   obtain ⟨_,arr,e,hh⟩:=hm.ge pe hg;exact .inr (.inr ⟨rfl,(Array.getElem?_eq_some_iff.1 hh).1⟩)) ny du
  exact DA.ca (m:=⟨λ_ _=>none,C2.emp,m.w⟩) Mw
 have mc:=hC.pure f vs r hr (safe B S m false) m.w us (by rw[<-pc];exact hl.symm) tv;intro K Q hK;unfold Oper.wp;rw[hex _ (hC.Eb f vs r hr _ _)];refine Calls.mono mc λ e w' ⟨u,oz,qu,du,ag⟩ => ?_
 subst oz;obtain ⟨vj,nn⟩:=grow hm qu;refine hK u ⟨m.ν,m.own,w'⟩ rfl vj nn ?_;refine DV.cv (m:=⟨m.ν,m.own,w'⟩) ((Ad8 du ag).clean (λ b hb Ji => ?_) ag);rcases Ji with ⟨h1,h2⟩|⟨h1,_⟩|⟨h1,_⟩
 ·exact nn.Ls false b h2 h1
 ·refine .inr (.inl ⟨Nat.le_trans hm.size h1,λ s t pe hg => ?_⟩)
  obtain ⟨b',o8⟩:=Option.isSome_iff_exists.1 pe;obtain ⟨_,arr,e,hh⟩:=hm.ge ⟨b',o8⟩ hg;have:=(Array.getElem?_eq_some_iff.1 hh).1
  omega
 ·cases h1
theorem Aja {C:Cl} (hC:QY P num C) (hm:GR B S w0 m) (hs:I0 B S m ρ a.eval) {f:Nat} {xs:Array Operand} {y9:List C4} (he:LY xs.toList y9=true) (hex : ∀ w:World,(callFunc (num f) (xs.map a.eval)).run P w = .ok (.enter (num f) (xs.map a.eval)) w->(execOp a.eval o).run P w = .ok (.enter (num f) (xs.map a.eval)) w) {vs:List AV} {r:AV} (hv:(y9.map ρ).mapM (JD m.own true)=some vs) (hr:C.pure f vs=some r):I9 B S w0 P o a m (.val r):=by
 obtain ⟨hl,hx⟩:=tU hs he;have nq:(xs.map a.eval)=(xs.toList.map a.eval).toArray:=by cases xs;simp
 rw[nq]at hex;refine Ajb hC hm (us:=xs.toList.map a.eval) (as:=y9.map ρ) (by simp [hl]) (λ j v c h1 h2 => ?_) hex hv hr;rw[List.getElem?_map]at h1 h2;cases ud:xs.toList[j]? with
 | none=>simp [ud]at h1
 | some x =>
  cases yx:y9[j]? with
  | none=>simp [yx]at h2
  | some y =>
   simp only[ud,yx,Option.map_some,Option.some.injEq]at h1 h2;subst h1 h2;exact hx j x y ud yx
theorem Ar0 {C:Cl} (hC:QY P num C) (hm:GR B S w0 m) (hs:I0 B S m ρ a.eval) {f:Nat} {y9:List C4} (h:FW P num o.op (.call f y9)=true) {vs:List AV} {r:AV} (hv:(y9.map ρ).mapM (JD m.own true)=some vs) (hr:C.pure f vs=some r):I9 B S w0 P o a m (.val r):=by
 obtain ⟨xs,ts,o9,he⟩:=Afp h;exact Aja hC hm hs he (λ w h=>AcI o9 h) hv hr
theorem Ai7 {C:Cl} (hC:QY P num C) (hm:GR B S w0 m) (hs:I0 B S m ρ a.eval) {f:Nat} {y9:List C4} (h:FW P num o.op (.j6 f y9)=true) {r:AV} {q8:C2} (hr:C.pt f (y9.map ρ) m.own=some (r,q8)):I9 B S w0 P o a m (.mn r q8):=by
 obtain ⟨xs,ts,o9,he⟩:=Au1 h;obtain ⟨hl,hx⟩:=tU hs he;have nq:(xs.map a.eval)=(xs.toList.map a.eval).toArray:=by cases xs;simp
 have mc:=hC.pt f (y9.map ρ) m.own r q8 hr B S w0 m (xs.toList.map a.eval) rfl hm (by simp [hl]) (λ j c v hc hv=>by
  rw[List.getElem?_map]at hc hv;cases ud:xs.toList[j]? with
  | none=>simp [ud]at hv
  | some x =>
   cases yx:y9[j]? with
   | none=>simp [yx]at hc
   | some y =>
    simp [ud]at hv;simp [yx]at hc;subst hv hc;exact hx j x y ud yx)
 intro K Q hK;unfold Oper.wp;rw[AcI o9 (hC.zm f _ _ _ hr _ _),nq];refine Calls.mono mc λ e w' ⟨u,m',oz,hw,n9,vj,nn,du⟩ => ?_
 subst oz hw;exact hK u m' n9 vj nn du
theorem Aqr (hm:GR B S w0 m) {w':World} (hb:Below m.w.heap.size m.w w') (s:Nat) (b:LS) (gg:Option Nat) (hz : ∀ x∈b.es,x.length=b.b7)
  (hg:match gg with|none=>b.es=[]|some g=>m.w.heap.size<=g /\ ∃ arr e,w'.heap[g]? = some (.cells arr e (0,0)) /\ ∀ i cs,b.es[i]? = some cs -> ∀ j c,cs[j]? = some c -> ∃ u,arr[i*b.b7+j]? = some u/\CC B S ⟨l6 m s gg,m.own.put s ((m.own s).new b),w'⟩ c u) :
  GR B S w0 ⟨l6 m s gg,m.own.put s ((m.own s).new b),w'⟩/\J8 B S m ⟨l6 m s gg,m.own.put s ((m.own s).new b),w'⟩:=by
 have hν : ∀ s' t',live m s' t'->l6 m s gg s' t'=m.ν s' t':=λ s' t' hl=>by
  unfold l6;rw[if_neg];rintro ⟨rfl,rfl⟩
  exact Acl hm _ hl
 have zz : ∀ g,gg=some g->m.w.heap.size<=g:=λ g e=>by subst e;exact hg.1
 have he:J8 B S m ⟨l6 m s gg,m.own.put s ((m.own s).new b),w'⟩:=by
  refine uA hm hb.size (λ k hk _=>hb.block k hk) (λ s' => ?_) (λ s' t' b' ht o8 => ?_) (λ s' t' g hl lq o5 => ?_)
  ·rw[dJ];split
   ·rename_i h;subst h;omega
   ·exact Nat.le_refl _
  ·rw[PX]at o8
   rw[if_neg (by rintro ⟨rfl,rfl⟩;omega)]at o8;refine ⟨b',o8,rfl,hν s' t' ⟨b',o8⟩,λ g ar e' lq ha=>⟨ar,?_,rfl⟩⟩;exact (hb.block g (Array.getElem?_eq_some_iff.1 ha).1).trans ha
  ·obtain ⟨b',o8⟩:=hl
   rw[PX]at o8;by_cases h:s'=s/\t'=m.own.k9 s
   ·simp only[l6,if_pos h]at lq
    have:=zz g lq
    omega
   ·rw[if_neg h]at o8
    exact ⟨s',t',⟨b',o8⟩,by rw[<-hν s' t' ⟨b',o8⟩];exact lq⟩
 refine ⟨⟨hm.below.trans (hb.mono hm.size),Nat.le_trans hm.size hb.size,λ s' t' ht => ?_,λ s' t' b' o8 => ?_,λ s1 t1 s2 t2 b1 b2 g h1 h2 g1 g2 => ?_⟩,he⟩
 ·rw[dJ]at ht
  rw[PX,if_neg]
  ·refine hm.fresh s' t' ?_
   split at ht
   ·rename_i h;subst h;omega
   ·exact ht
  ·rintro ⟨rfl,rfl⟩
   simp at ht;omega
 ·rw[PX]at o8
  by_cases h:s'=s/\t'=m.own.k9 s
  ·rw[if_pos h]at o8
   obtain rfl:b=b':=by simpa using o8
   refine ⟨hz,?_⟩;show match l6 m s gg s' t' with|none=>_|some g=>_
   rw[show l6 m s gg s' t'=gg by simp [l6,h]];cases gg with
   | none=>exact hg
   | some g=>exact ⟨Nat.le_trans hm.size hg.1,hg.2⟩
  ·rw[if_neg h]at o8
   obtain ⟨h1,h2⟩:=hm.k8 s' t' b' o8;refine ⟨h1,?_⟩;show match l6 m s gg s' t' with|none=>_|some g=>_
   rw[hν s' t' ⟨b',o8⟩];cases hv:m.ν s' t' with
   | none=>rw[hv]at h2;exact h2
   | some g =>
    rw[hv]at h2;obtain ⟨h3,ar,e',h4,h5⟩:=h2;refine ⟨h3,ar,e',(hb.block g (Array.getElem?_eq_some_iff.1 h4).1).trans h4,λ i cs hi j c hj => ?_⟩;obtain ⟨u,hu,fi⟩:=h5 i cs hi j c hj;exact ⟨u,hu,he.cc fi⟩
 ·rw[PX]at h1 h2
  have lt : ∀ s' t' b',m.own.get s' t'=some b'->l6 m s gg s' t'=some g->g<m.w.heap.size:=λ s' t' b' o8 lq=>by
   rw[hν s' t' ⟨b',o8⟩]at lq;obtain ⟨_,ar,e',h4⟩:=hm.ge ⟨b',o8⟩ lq;exact (Array.getElem?_eq_some_iff.1 h4).1
  have at_ : ∀ s' t',s'=s/\t'=m.own.k9 s->l6 m s gg s' t'=some g->m.w.heap.size<=g:=λ s' t' h lq=>by
   simp only[l6,if_pos h]at lq;exact zz g lq
  by_cases p1:s1=s/\t1=m.own.k9 s<;>by_cases p2:s2=s/\t2=m.own.k9 s
  ·exact ⟨p1.1.trans p2.1.symm,p1.2.trans p2.2.symm⟩
  ·rw[if_neg p2]at h2
   have:=lt s2 t2 b2 h2 g2
   have:=at_ s1 t1 p1 g1
   omega
  ·rw[if_neg p1]at h1
   have:=lt s1 t1 b1 h1 g1
   have:=at_ s2 t2 p2 g2
   omega
  ·rw[if_neg p1]at h1
   rw[if_neg p2]at h2;exact hm.inj s1 t1 s2 t2 b1 b2 g h1 h2 (by rw[<-hν s1 t1 ⟨b1,h1⟩];exact g1) (by rw[<-hν s2 t2 ⟨b2,h2⟩];exact g2)
theorem Ar4 {C:Cl} (hC:QY P num C) (hm:GR B S w0 m) (hs:I0 B S m ρ a.eval) {s f:Nat} {y9:List C4} (h:FW P num o.op (.ay s f y9)=true) {vs:List AV} (hv:(y9.map ρ).mapM (oT m.own true)=some vs) {z:Nat} {es:List (List AV)} (hr:nP (C.pt f vs C2.emp)=some (z,es)) :
  I9 B S w0 P o a m (.new s ⟨z,es⟩ (λ t => .row s t z 0 es.length)):=by
 obtain ⟨xs,ts,o9,he⟩:=Afp (Au3 h);obtain ⟨s0,t0,o',b0,Yg,z9,rfl,ag⟩:=Aqq hr;obtain ⟨hl,hx⟩:=tU hs he;obtain ⟨pc,ub⟩:=qJ _ hv;have nq:(xs.map a.eval)=(xs.toList.map a.eval).toArray:=by cases xs;simp
 have tv : ∀ (j:Nat) (c:AV) (v:Value),vs[j]? = some c->(xs.toList.map a.eval)[j]? = some v->CV m.w.heap.size (safe B S m false) ⟨λ_ _=>none,C2.emp,m.w⟩ c v:=by
  intro j c v hc Cj;rw[List.getElem?_map]at Cj;cases ud:xs.toList[j]? with
  | none=>simp [ud]at Cj
  | some x =>
   simp [ud]at Cj;subst Cj;have my:j<y9.length:=by rw[<-hl];exact (zS ud).1
   obtain ⟨y,hy,ny⟩:=ub j (ρ y9[j]) (by rw[List.getElem?_map,zE my];rfl);rw[hc]at hy;obtain rfl:c=y:=by simpa using hy
   have du:=hx j x y9[j] ud (zE my);have hN:(ρ y9[j] = .nil/\c = .nil)\/JD m.own true (ρ y9[j])=some c:=by
    cases e:ρ y9[j] with
    | nil=>rw[e]at ny;exact .inl ⟨rfl,(Option.some.inj ny).symm⟩
    | _=>rw[e]at ny;exact .inr ny
   rcases hN with ⟨e1,rfl⟩|ny
   ·rw[e1]at du
    rw[wO du];exact .ca (.one .nil)
   have Mw:=AcX hm true (safe m.w.heap.size (safe B S m false) ⟨λ_ _=>none,C2.emp,m.w⟩) (λ l b hb Ji=>by
    cases l with
    | false=>exact .inl ⟨Ji,hb⟩
    | true=>exact .inr (.inr ⟨rfl,hb⟩)) (λ s t g pe hg=>by
    obtain ⟨_,arr,e,hh⟩:=hm.ge pe hg;exact .inr (.inr ⟨rfl,(Array.getElem?_eq_some_iff.1 hh).1⟩)) ny du
   exact .ca (DA.ca (m:=⟨λ_ _=>none,C2.emp,m.w⟩) Mw)
 have hm0:GR m.w.heap.size (safe B S m false) m.w ⟨λ_ _=>none,C2.emp,m.w⟩:=⟨Below.refl _ _,Nat.le_refl _,λ_ _ _=>rfl,(λ s t b h=>by cases h),(λ_ _ _ _ _ _ _ h=>by cases h)⟩;have mc:=hC.pt f vs C2.emp _ o' Yg m.w.heap.size (safe B S m false) m.w ⟨λ_ _=>none,C2.emp,m.w⟩ (xs.toList.map a.eval) rfl hm0 (by rw[<-pc];simp [hl]) tv;intro K Q hK;unfold Oper.wp;rw[AcI o9 (hC.zm f _ _ _ Yg _ _),nq];refine Calls.mono mc λ e w' ⟨u,m',oz,hw,n9,vj,ALz,du⟩ => ?_
 subst oz hw;have qu:Below m.w.heap.size m.w m'.w:=vj.below;rw[<-n9]at z9;obtain ⟨hz,wq⟩:=vj.k8 s0 t0 b0 z9;obtain ⟨ad,cap,rfl,ht,jm,su,ha,hb⟩:=wV du;obtain ⟨ri,lu⟩:=hb b0 z9;subst ri;have hold : ∀ s t g,live m s t->m.ν s t=some g->g<m.w.heap.size:=λ s t g pe hg=>by
  obtain ⟨_,arr,e,hh⟩:=hm.ge pe hg;exact (Array.getElem?_eq_some_iff.1 hh).1
 have Nk : ∀ s' t' g,live ⟨l6 m s (m'.ν s0 t0),m.own.put s ((m.own s).new ⟨b0.b7,b0.es⟩),m'.w⟩ s' t'->l6 m s (m'.ν s0 t0) s' t'=some g->g<m.w.heap.size\/m'.ν s0 t0=some g:=λ s' t' g pe hg=>by
  obtain ⟨b',o8⟩:=pe;rw[PX]at o8;by_cases o4:s'=s/\t'=m.own.k9 s
  ·simp only[l6,if_pos o4]at hg
   exact Or.inr hg
  ·rw[if_neg o4]at o8
   simp only[l6,if_neg o4]at hg;exact Or.inl (hold s' t' g ⟨b',o8⟩ hg)
 have hR : ∀ b,b<m'.w.heap.size->safe m.w.heap.size (safe B S m false) m' false b->safe B S ⟨l6 m s (m'.ν s0 t0),m.own.put s ((m.own s).new ⟨b0.b7,b0.es⟩),m'.w⟩ false b:=λ b Ps Ji=>by
  rcases Ji with ⟨h1,h2⟩|⟨h1,h2⟩|⟨h1,_⟩
  ·rcases h1 with h1|⟨h1,h3⟩|⟨h1,_⟩
   ·exact .inl h1
   ·refine .inr (.inl ⟨h1,λ s' t' pe hg => ?_⟩)
    obtain ⟨b',o8⟩:=Option.isSome_iff_exists.1 pe;have dd:=o8;rw[PX]at dd;by_cases o4:s'=s/\t'=m.own.k9 s
    ·simp only[l6,if_pos o4]at hg
     rw[hg]at wq;have:=wq.1
     omega
    ·rw[if_neg o4]at dd
     simp only[l6,if_neg o4]at hg;exact h3 s' t' (by rw[dd];rfl) hg
   ·cases h1
  ·refine .inr (.inl ⟨Nat.le_trans hm.size h1,λ s' t' pe hg => ?_⟩)
   rcases Nk s' t' b (Option.isSome_iff_exists.1 pe) hg with h3|h3
   ·omega
   ·exact h2 s0 t0 (by rw[z9];rfl) h3
  ·cases h1
 obtain ⟨uj,nn⟩:=Aqr hm qu s ⟨b0.b7,b0.es⟩ (m'.ν s0 t0) hz (by
  cases hν:m'.ν s0 t0 with
  | none=>rw[hν]at wq;exact wq
  | some g =>
   rw[hν]at wq hR;obtain ⟨h1,arr,e,h2,h3⟩:=wq;refine ⟨h1,arr,e,h2,λ i cs hi j c hj => ?_⟩;obtain ⟨u,hu,fi⟩:=h3 i cs hi j c hj;refine ⟨u,hu,.rd ?_⟩;have Mt:=nS (AbF ag i cs hi) j c hj;have vk:Rd m'.w (safe m.w.heap.size (safe B S m false) m') c u:=by
    cases fi with
    | rd h=>exact h
    | _=>unfold EA at Mt;exact Mt.elim
   exact vk.clean hR Mt)
 refine hK _ ⟨l6 m s (m'.ν s0 t0),m.own.put s ((m.own s).new ⟨b0.b7,b0.es⟩),m'.w⟩ rfl uj nn (.ca (.one (.row s (m.own.k9 s) b0.b7 0 b0.es.length ad cap (by show m.own.k9 s<C2.k9 (m.own.put s _) s;rw[dJ,if_pos rfl];omega) jm su ha λ b1 Ib => ?_)));have Xo:(m.own.put s ((m.own s).new ⟨b0.b7,b0.es⟩)).get s (m.own.k9 s)=some b1:=Ib;rw[PX,if_pos ⟨rfl,rfl⟩]at Xo;obtain rfl:=Option.some.inj Xo;refine ⟨rfl,?_⟩;rcases lu with h0|⟨g,arr,e,hg,uh,hh,hle⟩
 ·exact .inl h0
 ·exact .inr ⟨g,arr,e,by simp [l6,hg],uh,hh,hle⟩
theorem AiR {p:Bool} {f g:Nat} {cs:List AV} {v:Value} (h:CV B S m (.fn p f g cs) v) (hp:p=false\/cs=[]) : ∃ vs:List Value,v = .func (.func g) #[] vs.toArray/\CL B S m cs vs:=by
 cases h with
 | ca h=>cases h with
  | one h=>cases h with
   | rd h=>cases h
  | fn p f g cs vs hp h=>exact ⟨vs,rfl,h⟩
  | Ec f g cs vs u5 h =>
   rcases hp with hp|hp
   ·cases hp
   ·exact absurd hp u5
theorem Art {f g:Nat} {cs:List AV} {v:Value} (h:CV B S m (.fn true f g cs) v) (u5:cs≠[]) : ∃ vs:List Value,v = .func (.func g) #[.agg vs.toArray] #[]/\CL B S m cs vs:=by
 cases h with
 | ca h=>cases h with
  | one h=>cases h with
   | rd h=>cases h
  | fn p f g cs vs hp h=>exact absurd (hp rfl) u5
  | Ec f g cs vs u5 h=>exact ⟨vs,rfl,h⟩
theorem Am9 {f:Nat} {x:Operand} {xs:Array Operand} {ts:Array TypeId} {vs:Array Value} (o9:o.op = .call ⟨.value x,xs,ts⟩) (hx:a.eval x = .func (.func f) #[] vs) {w:World} (h:(callFunc f (xs.map a.eval++vs)).run P w = .ok (.enter f (xs.map a.eval++vs)) w):(execOp a.eval o).run P w = .ok (.enter f (xs.map a.eval++vs)) w:=by
 simp [execOp,o9,resolve,Deferred.ofValue,hx,invoke];exact h
theorem Ar5 {C:Cl} (hC:QY P num C) (hm:GR B S w0 m) (hs:I0 B S m ρ a.eval) {x':C4} {y9:List C4} (h:FW P num o.op (.w5 x' y9)=true) {f:Nat} {cs:List AV} (hf:ρ x' = .fn false f (num f) cs) {r:AV} {q8:C2} (hr:C.pt f (y9.map ρ++cs) m.own=some (r,q8)):I9 B S w0 P o a m (.mn r q8):=by
 obtain ⟨x,xs,ts,o9,Am,he⟩:=Afq h;obtain ⟨hl,hx⟩:=tU hs he;obtain ⟨vs,hv,ag⟩:=AiR (hf ▸ hs x x' Am) (.inl rfl);have nq:(xs.map a.eval++vs.toArray)=(xs.toList.map a.eval++vs).toArray:=by cases xs;simp
 have mc:=hC.pt f (y9.map ρ++cs) m.own r q8 hr B S w0 m (xs.toList.map a.eval++vs) rfl hm (by simp [hl,ag.1]) (λ j c v hc hv=>by
  by_cases hj:j<y9.length
  ·rw[List.getElem?_append_left (by simpa using hj),List.getElem?_map]at hc
   rw[List.getElem?_append_left (by simpa [hl] using hj),List.getElem?_map]at hv;have Qb:j<xs.toList.length:=by rw[hl];exact hj
   rw[zE hj]at hc;rw[zE Qb]at hv;simp only[Option.map_some,Option.some.injEq]at hc hv;subst hc hv;exact hx j _ _ (zE Qb) (zE hj)
  ·rw[List.getElem?_append_right (by simpa using hj),List.length_map]at hc
   rw[List.getElem?_append_right (by simpa [hl] using hj),List.length_map,hl]at hv;exact .ca (.one (ag.2 _ c v hc hv)))
 intro K Q hK;unfold Oper.wp;rw[Am9 o9 hv (hC.zm f _ _ _ hr _ _),nq];refine Calls.mono mc λ e w' ⟨u,m',oz,hw,n9,vj,nn,du⟩ => ?_
 subst oz hw;exact hK u m' n9 vj nn du
theorem Ar2 {C:Cl} (hC:QY P num C) (hm:GR B S w0 m) (hs:I0 B S m ρ a.eval) {x':C4} {y9:List C4} (h:FW P num o.op (.w5 x' y9)=true) {f:Nat} (hf:ρ x' = .fn true f (num f) []) {vs:List AV} {r:AV} (hv:(y9.map ρ).mapM (JD m.own true)=some vs) (hr:C.pure f vs=some r):I9 B S w0 P o a m (.val r):=by
 obtain ⟨x,xs,ts,o9,Am,he⟩:=Afq h;obtain ⟨us,hu,ag⟩:=AiR (hf ▸ hs x x' Am) (.inr rfl);have hu0:us=[]:=List.eq_nil_of_length_eq_zero (by rw[<-ag.1];rfl);subst hu0;refine Aja hC hm hs he (λ w h => ?_) hv hr;have:=Am9 (P:=P) (w:=w) o9 hu (by simpa using h)
 simpa using this
theorem AwO {f:Nat} {x:Operand} {xs:Array Operand} {ts:Array TypeId} {u:Value} (o9:o.op = .call ⟨.value x,xs,ts⟩) (hx:a.eval x = .func (.func f) #[u] #[]) {w:World} (h:(callFunc f (#[u]++xs.map a.eval)).run P w = .ok (.enter f (#[u]++xs.map a.eval)) w):(execOp a.eval o).run P w = .ok (.enter f (#[u]++xs.map a.eval)) w:=by
 simp [execOp,o9,resolve,Deferred.ofValue,hx,invoke];exact h
theorem Ar1 {C:Cl} (hC:QY P num C) (hm:GR B S w0 m) (hs:I0 B S m ρ a.eval) {x':C4} {y9:List C4} (h:FW P num o.op (.w5 x' y9)=true) {f:Nat} {c:AV} {cs:List AV} (hf:ρ x' = .fn true f (num f) (c::cs)) {vs:List AV} {r:AV} (hv:(AV.agg (c::cs)::y9.map ρ).mapM (JD m.own true)=some vs) (hr:C.pure f vs=some r):I9 B S w0 P o a m (.val r):=by
 obtain ⟨x,xs,ts,o9,Am,he⟩:=Afq h;obtain ⟨us,hu,ag⟩:=Art (hf ▸ hs x x' Am) (by simp);obtain ⟨hl,hx⟩:=tU hs he;have nq:(#[Value.agg us.toArray]++xs.map a.eval)=(Value.agg us.toArray::xs.toList.map a.eval).toArray:=by cases xs;simp
 refine Ajb hC hm (us:=Value.agg us.toArray::xs.toList.map a.eval) (as:=AV.agg (c::cs)::y9.map ρ) (by simp [hl]) (λ j v c' h1 h2 => ?_) (λ w h=>by
  rw[<-nq]at h ⊢;exact AwO o9 hu h) hv hr
 cases j with
 | zero =>
  simp only[List.getElem?_cons_zero,Option.some.injEq]at h1 h2;subst h1 h2;exact .ca (.agg _ _ ag)
 | succ j =>
  rw[List.getElem?_cons_succ,List.getElem?_map]at h1 h2;cases ud:xs.toList[j]? with
  | none=>simp [ud]at h1
  | some x =>
   cases yx:y9[j]? with
   | none=>simp [yx]at h2
   | some y =>
    simp only[ud,yx,Option.map_some,Option.some.injEq]at h1 h2;subst h1 h2;exact hx j x y ud yx
theorem Rd.to1 {w:World} {R R':Bool->Nat->Prop} (hR : ∀ l b,b<w.heap.size->R l b -> ∀ l',R' l' b) {c:AV} {v:Value} (h:Rd w R c v) (hq:P1 c=true):Rd w R' (yX c) v:=by
 cases h with
 | int k n=>exact .int k n
 | bool b=>exact .bool b
 | str s=>simp [P1]at hq
 | uz=>simp [P1]at hq
 | emp=>simp [P1]at hq
 | rm l a cap=>exact .rm false a cap
 | sl l es b o b7 cap u u5 hp h1 gu hz ag hr =>
  obtain ⟨e,c,he,qy⟩:=Vn u5 hp hz;have hb:b<w.heap.size:=tL (ag 0 e he 0 c qy);exact .sl false es b o b7 cap u u5 hp (hR l b hb h1 false) gu hz ag λ i e he j c hj=>(hr i e he j c hj).mono (λ l b hb h=>hR l b hb h l) (λ_ _ _ _=>rfl)
theorem Rd.Kk {w:World} {R R':Bool->Nat->Prop} (hR : ∀ b,b<w.heap.size->R false b->R' true b) {c:AV} {v:Value} (h:Rd w R c v) (hc:EA c) (hf:zG c):Rd w R' (Rv c) v:=by
 cases h with
 | int k n=>exact .int k n
 | bool b=>exact .bool b
 | str s=>exact hf.elim
 | uz=>exact hf.elim
 | emp=>exact hf.elim
 | rm l a cap=>exact .rm true a cap
 | sl l es b o b7 cap u u5 hp h1 gu hz ag hr =>
  unfold EA at hc;obtain ⟨rfl,hc⟩:=hc;obtain ⟨e,c,he,qy⟩:=Vn u5 hp hz;have hb:b<w.heap.size:=tL (ag 0 e he 0 c qy);refine .sl true es b o b7 cap u u5 hp (hR b hb h1) gu hz ag λ i e he j c hj => ?_
  have AEq:=hf e (zM he) c (zM hj);have Oj:=hr i e he j c hj;generalize u i j=vv at Oj ⊢;cases Oj<;>first|exact .int _ _|exact .bool _|(simp [AfQ]at AEq)
theorem Afu : ∀ l:List AV,W6 l=l.map P2
 | []=>by simp [W6]
 | c::r=>by rw[W6,Afu r];rfl
theorem AlI : ∀ l:List (List AV),aO l=l.map λ e=>e.map P2
 | []=>by simp [aO]
 | c::r=>by rw[aO,AlI r,Afu];rfl
theorem Rd.Kl {w:World} {R R':Bool->Nat->Prop} (hR : ∀ b,b<w.heap.size->R false b->R' true b) {c:AV} {v:Value} (h:Rd w R c v):EA c->Rd w R' (P2 c) v:=by
 induction h with
 | int k n=>intro _;exact .int k n
 | bool b=>intro _;exact .bool b
 | str s=>intro _;exact .str s
 | uz=>intro _;exact .uz
 | emp b a cap h=>intro _;exact .emp b a cap h
 | rm l a cap=>intro _;exact .rm true a cap
 | sl l es b o b7 cap u u5 hp h1 gu hz ag hr ih =>
  intro hc;unfold EA at hc;obtain ⟨rfl,hc⟩:=hc;obtain ⟨e,c,he,qy⟩:=Vn u5 hp hz;have hb:b<w.heap.size:=tL (ag 0 e he 0 c qy);have tz : ∀ (i:Nat) (e':List AV),(es.map λ e:List AV=>e.map P2)[i]? = some e' -> ∃ e,es[i]? = some e/\e'=e.map P2:=λ i e' h=>by
   rw[List.getElem?_map]at h;cases hi:es[i]? with
   | none=>simp [hi]at h
   | some e=>exact ⟨e,rfl,by simpa [hi] using h.symm⟩
  have Xm : ∀ (e:List AV) (j:Nat) (c':AV),(e.map P2)[j]? = some c' -> ∃ c,e[j]? = some c/\c'=P2 c:=λ e j c' h=>by
   rw[List.getElem?_map]at h;cases hi:e[j]? with
   | none=>simp [hi]at h
   | some c=>exact ⟨c,rfl,by simpa [hi] using h.symm⟩
  have key:=Rd.sl (w:=w) (R:=R') true (es.map λ e:List AV=>e.map P2) b o b7 cap u (by simpa using u5) hp (hR b hb h1) (by simpa using gu)
   (λ e' oz=>by
    obtain ⟨e,he,rfl⟩:=List.mem_map.1 oz;rw[List.length_map];exact hz e he)
   (λ i e' hi j c' hj=>by
    obtain ⟨e,he,rfl⟩:=tz i e' hi;obtain ⟨c,Pv,rfl⟩:=Xm e j c' hj;exact ag i e he j c Pv)
   (λ i e' hi j c' hj=>by
    obtain ⟨e,he,rfl⟩:=tz i e' hi;obtain ⟨c,Pv,rfl⟩:=Xm e j c' hj;exact ih i e he j c Pv (nS (AbF hc i e he) j c Pv))
  rw[List.length_map]at key;rw[P2,AlI];exact key
theorem Ar3 {C:Cl} (hC:QY P num C) (hm:GR B S w0 m) (hs:I0 B S m ρ a.eval) {f:Nat} {y9:List C4} (h:FW P num o.op (.v7 f y9)=true) (hq:(y9.map ρ).all dq=true) {r:AV} (hr:C.pure f ((y9.map ρ).map Hk)=some r) (AEd:YD r\/sW r):I9 B S w0 P o a m (.val (fE r)):=by
 obtain ⟨xs,ts,o9,he⟩:=Afp (Au2 h);obtain ⟨hl,hx⟩:=tU hs he;have nq:(xs.map a.eval)=(xs.toList.map a.eval).toArray:=by cases xs;simp
 have hR : ∀ l b,b<m.w.heap.size->safe B S m l b -> ∀ l',safe m.w.heap.size (safe B S m true) ⟨λ_ _=>none,C2.emp,m.w⟩ l' b:=λ l b hb h l' => .inl ⟨AgA h,hb⟩
 have hcell : ∀ (c:AV) (v:Value),CC B S m c v->P1 c=true->Rd m.w (safe m.w.heap.size (safe B S m true) ⟨λ_ _=>none,C2.emp,m.w⟩) (yX c) v:=λ c v hc hd=>by
  cases hc with
  | rd hr=>exact hr.to1 hR hd
  | nil=>exact .rm false none 0
  | row=>simp [P1]at hd
  | ptr=>simp [P1]at hd
  | db=>simp [P1]at hd
 have tv : ∀ (j:Nat) (c:AV) (v:Value),((y9.map ρ).map Hk)[j]? = some c->(xs.toList.map a.eval)[j]? = some v->CA m.w.heap.size (safe B S m true) ⟨λ_ _=>none,C2.emp,m.w⟩ c v:=by
  intro j c v hc Cj;rw[List.getElem?_map,List.getElem?_map]at hc;rw[List.getElem?_map]at Cj;cases ud:xs.toList[j]? with
  | none=>simp [ud]at Cj
  | some x =>
   cases yx:y9[j]? with
   | none=>simp [yx]at hc
   | some y =>
    simp [ud]at Cj;simp [yx]at hc;subst Cj hc;have du:=hx j x y ud yx;have hd:dq (ρ y)=true:=List.all_eq_true.1 hq _ (List.mem_map_of_mem (zM yx));generalize ρ y=cy at du hd ⊢;generalize a.eval x=vx at du ⊢;cases du with
    | any=>simp [dq,P1]at hd
    | j5=>simp [dq,P1]at hd
    | ca Cg =>
     cases Cg with
     | one Pu =>
      have wz:P1 cy=true/\Hk cy=yX cy:=by
       cases Pu with
       | rd hr=>cases hr<;>exact ⟨hd,rfl⟩
       | _=>exact ⟨hd,rfl⟩
      rw[wz.2];exact .one (.rd (hcell _ _ Pu wz.1))
     | agg cs vs ag =>
      refine .agg (cs.map yX) vs ⟨by simpa using ag.1,λ k c' v' cz ql => ?_⟩;rw[List.getElem?_map]at cz;cases zt:cs[k]? with
      | none=>simp [zt]at cz
      | some c0 =>
       simp [zt]at cz;subst cz;exact .rd (hcell c0 v' (ag.2 k c0 v' zt ql) (List.all_eq_true.1 hd _ (zM zt)))
     | fn=>simp [dq,P1]at hd
     | Ec=>simp [dq,P1]at hd
 have mc:=hC.pure f _ r hr (safe B S m true) m.w (xs.toList.map a.eval) (by simp [hl]) tv;intro K Q hK;unfold Oper.wp;rw[AcI o9 (hC.Eb f _ r hr _ _),nq];refine Calls.mono mc λ e w' ⟨u,oz,qu,du,ag⟩ => ?_
 subst oz;obtain ⟨vj,nn⟩:=grow hm qu;refine hK u ⟨m.ν,m.own,w'⟩ rfl vj nn ?_;have qt : ∀ b,b<w'.heap.size->safe m.w.heap.size (safe B S m true) ⟨λ_ _=>none,C2.emp,w'⟩ false b->safe B S ⟨m.ν,m.own,w'⟩ true b:=λ b hb Ji=>by
  rcases Ji with ⟨h1,h2⟩|⟨h1,_⟩|⟨h1,_⟩
  ·exact nn.Ls true b h2 h1
  ·refine .inr (.inl ⟨Nat.le_trans hm.size h1,λ s t pe hg => ?_⟩)
   obtain ⟨b',o8⟩:=Option.isSome_iff_exists.1 pe;obtain ⟨_,arr,e,hh⟩:=hm.ge ⟨b',o8⟩ hg;have:=(Array.getElem?_eq_some_iff.1 hh).1
   omega
  ·cases h1
 by_cases qe:YD r
 ·rw[Afw qe]
  rcases Ad8 du ag with Mw|⟨cs,vs,rfl,_⟩
  ·rcases Mw with vk|⟨cs,vs,rfl,rfl,pc,hh⟩
   ·have e1:Ke r=Rv r/\zG r:=by cases vk<;>exact ⟨rfl,qe⟩
    rw[show H5.valOf (.val (Ke r)) m.own=Ke r from rfl,e1.1];exact .ca (.one (.rd (vk.Kk qt ag e1.2)))
   ·unfold EA at ag
    refine .ca (.agg (cs.map Rv) vs ⟨by simpa using pc,λ k c' v' cz ql => ?_⟩);rw[List.getElem?_map]at cz;cases zt:cs[k]? with
    | none=>simp [zt]at cz
    | some c0 =>
     simp [zt]at cz;subst cz;exact .rd ((hh k c0 v' zt ql).Kk qt (nS ag k c0 zt) (qe c0 (zM zt)))
  ·exact qe.elim
 ·rw[Afv qe]
  have hd:=AEd.resolve_left qe;rcases Ad8 du ag with Mw|⟨cs,vs,rfl,_⟩
  ·rcases Mw with vk|⟨cs,vs,rfl,rfl,pc,hh⟩
   ·have e1:cL r=P2 r:=by cases vk<;>rfl
    rw[show H5.valOf (.val (cL r)) m.own=cL r from rfl,e1];exact .ca (.one (.rd (vk.Kl qt ag)))
   ·unfold EA at ag
    rw[show H5.valOf (.val (cL (.agg cs))) m.own = .agg (W6 cs) from rfl,Afu];refine .ca (.agg (cs.map P2) vs ⟨by simpa using pc,λ k c' v' cz ql => ?_⟩);rw[List.getElem?_map]at cz;cases zt:cs[k]? with
    | none=>simp [zt]at cz
    | some c0 =>
     simp [zt]at cz;subst cz;exact .rd ((hh k c0 v' zt ql).Kl qt (nS ag k c0 zt))
  ·exact hd.elim
end
end Go.c9

namespace Go.c9
open Go.RowKit
section
variable {B:Nat} {S:Nat->Prop} {w0:World} {m:M}
variable {P:Program} {num:Nat->Nat} {o:Oper} {a:Act} {ρ:C4->AV} {C:Cl} {c4:List Nat}
theorem Asl (hm:GR B S w0 m) (hs:I0 B S m ρ a.eval) {mx:Bool} {y9:List C4} (h:FW P num o.op (.mm mx y9)=true) {v r:AV} {l:List AV} (hx:y9.map ρ=v::l) (hv:cN mx v l=some r):I9 B S w0 P o a m (.val r):=by
 by_cases hi : ∃ k n,v = .int k n
 ·exact Ask hm hs h hx hv hi
 ·cases l with
  | cons u q =>
   simp only[cN]at hv;exfalso;cases v<;>first|(exact hi ⟨_,_,rfl⟩)|(simp [qK]at hv)
  | nil =>
   simp only[cN,Option.some.injEq]at hv;subst hv;obtain ⟨xs,ts,o9,he⟩:=Aln h;cases y9 with
   | nil=>simp at hx
   | cons y yr =>
    simp only[List.map_cons,List.cons.injEq,List.map_eq_nil_iff]at hx;obtain ⟨rfl,rfl⟩:=hx;obtain ⟨xl⟩:=xs;cases xl with
    | nil=>simp [LY]at he
    | cons x xr =>
     simp only[LY,Bool.and_eq_true]at he;cases xr with
     | cons=>simp [LY]at he
     | nil =>
      refine MH hm (u:=a.eval x) ?_ (hs x y he.1);cases mx<;>simp [execOp,o9,resolve,invoke,builtin,Builtin.min_,Builtin.max_]
theorem Ak1 (o:C2) (l:List Nat) (s t:Nat) (b:LS) (h:(o.w6 l).get s t=some b):o.get s t=some b:=by
 induction l with
 | nil=>exact h
 | cons x r ih =>
  unfold C2.get C2.w6 at h;by_cases hs:s=x
  ·simp [hs]at h
  ·simp only[if_neg hs]at h
   exact ih h
theorem Avm {o:C2} {l:List Nat} {s t i j n:Nat} {cs:List AV} (h:(o.w6 l).Ao s t i j n=some cs):o.Ao s t i j n=some cs:=by
 unfold C2.Ao at *;cases hg:(o.w6 l).get s t with
 | none=>simp [hg]at h
 | some b =>
  rw[Ak1 o l s t b hg];simpa [hg] using h
theorem AsK {o:C2} {l:List Nat} {v:AV} {es:List (List AV)} (h:MV (o.w6 l) v=some es):MV o v=some es:=by
 cases v with
 | gx v=>cases v<;>exact h
 | row s t z off len =>
  simp only[MV]at h ⊢;cases hg:(o.w6 l).get s t with
  | none=>simp [hg]at h
  | some b =>
   rw[Ak1 o l s t b hg];simpa [hg] using h
 | _=>exact h
theorem xU {α β:Type} {f g:α->Option β} (hfg : ∀ x y,f x=some y->g x=some y) : ∀ {l:List α} {l':List β},l.mapM f=some l'->l.mapM g=some l'
 | [],l',h=>by simpa using h
 | x::r,l',h=>by
  simp only[List.mapM_cons,Option.bind_eq_bind,Option.pure_def]at h ⊢;cases hx:f x with
  | none=>simp [hx]at h
  | some y =>
   cases hr:r.mapM f with
   | none=>simp [hx,hr]at h
   | some r' =>
    simp [hx,hr]at h;simp [hfg x y hx,xU hfg hr,h]
theorem AgT (o:C2) (l:List Nat) (b:Bool) : ∀ (d:Nat) (c c':AV),snap (o.w6 l) b d c=some c'->snap o b d c=some c'
 | 0,c,c',h=>by cases c<;>simp_all [snap]
 | d+1,c,c',h=>by
  cases c<;>first|(simp_all [snap];done)|skip
  rename_i s t z off len;simp only[snap]at h ⊢;cases he:MV (o.w6 l) (.row s t z off len) with
  | none=>simp [he]at h
  | some es =>
   simp only[he]at h;rw[AsK he];simp only[Option.map_eq_some_iff]at h ⊢;obtain ⟨es',h1,h2⟩:=h;exact ⟨es',xU (λ x y hx=>xU (AgT o l b d) hx) h1,h2⟩
theorem Anx (o:C2) (l:List Nat) (b:Bool) (c c':AV) (h:JD (o.w6 l) b c=some c'):JD o b c=some c':=by
 cases c<;>first|exact AgT o l b 6 _ _ h|skip
 simp only[JD,Option.map_eq_some_iff]at h ⊢;obtain ⟨cs,h1,h2⟩:=h;exact ⟨cs,xU (AgT o l b 6) h1,h2⟩
theorem Axe (o:C2) (l:List Nat) (b:Bool) (c c':AV) (h:oT (o.w6 l) b c=some c'):oT o b c=some c':=by
 rcases Classical.em (c = .nil) with rfl|hc
 ·exact h
 ·have e : ∀ o:C2,oT o b c=JD o b c:=λ o=>by cases c<;>first|rfl|exact (hc rfl).elim
  rw[e]at h ⊢;exact Anx o l b _ _ h
theorem AvA {o:C2} {l:List Nat} {b:Bool} {xs vs:List AV} (h:xs.mapM (oT (o.w6 l) b)=some vs):xs.mapM (oT o b)=some vs:=xU (Axe o l b) h
theorem Avy {o:C2} {l:List Nat} {b:Bool} {xs vs:List AV} (h:xs.mapM (JD (o.w6 l) b)=some vs):xs.mapM (JD o b)=some vs:=xU (Anx o l b) h
theorem Axr {own q8:C2} {s t i j:Nat} {vs:List AV} (h:own.yc s t i j vs=some q8):own.put s (q8 s)=q8:=by
 unfold C2.yc at h;cases hg:own.get s t with
 | none=>simp [hg]at h
 | some b =>
  simp only[hg]at h;cases he:b.es[i]? with
  | none=>simp [he]at h
  | some cs =>
   simp only[he]at h;split at h
   ·obtain rfl:=Option.some.inj h
    rw[C2.n6]
   ·cases h
theorem AsI (hC:QY P num C) (hm:GR B S w0 m) (hs:I0 B S m ρ a.eval) {Pa:K8} (m6:FW P num o.op Pa=true) {E:H5} (h:k6 C c4 ρ m.own Pa=some E):I9 B S w0 P o a m E:=by
 cases Pa with
 | y7 x=>simp only[k6,Option.some.injEq]at h;subst h;exact Asm hm hs m6
 | gj s z=>simp only[k6,Option.some.injEq]at h;subst h;exact Ass hm m6
 | pick c x y =>
  simp only[k6]at h;split at h
  ·rename_i hc;simp only[Option.some.injEq]at h;subst h;exact Ai9 hm hs m6 hc
  ·rename_i hc;simp only[Option.some.injEq]at h;subst h;exact Ai9 hm hs m6 hc
  ·cases h
 | bin f x y =>
  simp only[k6]at h;split at h
  ·rename_i k n k' n' hx hy
   simp only[Option.map_eq_some_iff]at h;obtain ⟨v,hv,rfl⟩:=h;exact ArW hm hs m6 hx hy hv
  ·cases h
 | beq ne x y =>
  simp only[k6]at h;split at h
  ·rename_i b b' hx hy
   simp only[Option.some.injEq]at h;subst h;exact ArV hm hs m6 hx hy
  ·cases h
 | un f x =>
  simp only[k6,Option.map_eq_some_iff]at h;obtain ⟨v,hv,rfl⟩:=h;exact Asr hm hs m6 hv
 | conv k x =>
  simp only[k6]at h;split at h
  ·rename_i k' n hx
   simp only[Option.some.injEq]at h;subst h;exact Ar6 hm hs m6 hx
  ·cases h
 | box s x =>
  simp only[k6]at h;split at h
  ·rename_i cs ua
   simp only[Option.some.injEq]at h;subst h;exact ArX hm hs m6 ua
  ·cases h
 | alloc s z=>simp only[k6,Option.some.injEq]at h;subst h;exact ArS hm m6
 | build z ps =>
  simp only[k6,Option.map_eq_some_iff]at h;obtain ⟨cs,ua,rfl⟩:=h;exact ArZ hm hs m6 ua
 | a9 s b7 ps =>
  simp only[k6]at h;split at h
  ·rename_i es qz
   split at h
   ·rename_i hz
    simp only[Option.some.injEq]at h;subst h;exact ArY hm hs m6 qz hz
   ·cases h
  ·cases h
 | m4 x off =>
  simp only[k6]at h;split at h
  ·rename_i s t i j hx
   simp only[Option.some.injEq]at h;subst h;exact Ar9 hm hs m6 hx
  ·rename_i cs hx
   simp only[Option.some.injEq]at h;subst h;exact Ar8 hm hs m6 hx
  ·cases h
 | ye x off n agg =>
  simp only[k6]at h;split at h
  ·rename_i cs hx
   split at h
   ·rename_i ds hp
    simp only[Option.map_eq_some_iff]at h;obtain ⟨v,hv,rfl⟩:=h;exact Asa hm hs m6 hx hp hv
   ·cases h
  ·cases h
 | ch arr b7 x i =>
  simp only[k6]at h;split at h
  ·rename_i k n hi
   split at h
   ·rename_i len s t i' j hx
    split at h
    ·rename_i hn
     simp only[Option.some.injEq]at h;subst h;exact Asb hm hs m6 hi hx hn.1 hn.2
    ·cases h
   ·rename_i len cs hx
    split at h
    ·rename_i hn
     simp only[Option.some.injEq]at h;subst h;exact Asc hm hs m6 hi hx hn.1 hn.2
    ·cases h
   ·rename_i s t z off len hx
    split at h
    ·rename_i hn
     simp only[Option.some.injEq]at h;subst h;exact Asd hm hs m6 hi hx hn.1 hn.2.1 hn.2.2
    ·cases h
   ·rename_i l es hx
    split at h
    ·rename_i h0
     split at h
     ·rename_i cs ua
      split at h
      ·rename_i hz
       simp only[Option.some.injEq]at h;subst h;exact Ase hm hs m6 hi hx h0 ua hz
      ·cases h
     ·cases h
    ·cases h
   ·cases h
  ·cases h
 | ld agg n x =>
  simp only[k6]at h;split at h
  ·rename_i s t i j hx
   split at h
   ·rename_i cs ua
    simp only[Option.map_eq_some_iff]at h;obtain ⟨v,hv,rfl⟩:=h;exact Asg hm hs m6 hx (Avm ua) hv
   ·cases h
  ·rename_i cs hx
   split at h
   ·rename_i ds hp
    simp only[Option.map_eq_some_iff]at h;obtain ⟨v,hv,rfl⟩:=h;exact Asf hm hs m6 hx hp hv
   ·cases h
  ·cases h
 | st n x v =>
  simp only[k6]at h;split at h
  ·rename_i s t i j vs hx mi
   split at h
   ·rename_i hn
    simp only[Option.map_eq_some_iff]at h;obtain ⟨q8,ho,rfl⟩:=h;exact Ajd hm hs m6 hx mi hn ho
   ·cases h
  ·cases h
 | mk s b7 bytes zero l c =>
  simp only[k6]at h;split at h
  ·rename_i kl a' kc b' hl hc
   split at h
   ·rename_i hn
    simp only[Option.some.injEq]at h;subst h;exact Asi hm hs m6 hl hc hn.1 hn.2.1 hn.2.2.1 hn.2.2.2.1 hn.2.2.2.2
   ·cases h
  ·cases h
 | kv b7 x lo hi =>
  simp only[k6]at h;have bnd : ∀ (d:Nat) (y:Option C4) (q:Nat),(match y with|none=>some d|some o=>match ρ o with | .int _ n=>if 0<=n/\n<=d then some n.toNat else none|_=>none)=some q -> ∃ n:Int,WQ ρ d y=some n/\0<=n/\n<=d/\q=n.toNat:=λ d y q hq=>by
   cases y with
   | none=>simp only[Option.some.injEq]at hq;subst hq;exact ⟨d,rfl,by omega,by omega,by simp⟩
   | some y =>
    simp only at hq;cases hy:ρ y with
    | int k n =>
     simp only[hy]at hq;split at hq
     ·rename_i hn
      simp only[Option.some.injEq]at hq;subst hq;exact ⟨n,by simp [WQ,hy],hn.1,hn.2,rfl⟩
     ·cases hq
    | _=>simp [hy]at hq
  have Wc : ∀ (y:Option C4) (q:Nat),(match y with|none=>some 0|some o=>match ρ o with | .int _ n=>if 0<=n then some n.toNat else none|_=>none)=some q -> ∃ n:Int,WQ ρ 0 y=some n/\0<=n/\q=n.toNat:=λ y q hq=>by
   cases y with
   | none=>simp only[Option.some.injEq]at hq;subst hq;exact ⟨0,rfl,by omega,by simp⟩
   | some y =>
    simp only at hq;cases hy:ρ y with
    | int k n =>
     simp only[hy]at hq;split at hq
     ·rename_i hn
      simp only[Option.some.injEq]at hq;subst hq;exact ⟨n,by simp [WQ,hy],hn,rfl⟩
     ·cases hq
    | _=>simp [hy]at hq
  have Wf : ∀ (y:Option C4) (q:Nat),(match y with|none=>some 0|some o=>match ρ o with | .int _ n=>if n=0 then some 0 else none|_=>none)=some q->WQ ρ 0 y=some 0:=λ y q hq=>by
   cases y with
   | none=>rfl
   | some y =>
    simp only at hq;cases hy:ρ y with
    | int k n =>
     simp only[hy]at hq;split at hq
     ·rename_i hn
      subst hn;simp [WQ,hy]
     ·cases hq
    | _=>simp [hy]at hq
  split at h
  ·rename_i l es hx
   split at h
   ·rename_i q1 q2 h1 h2
    split at h
    ·rename_i hq
     simp only[Option.some.injEq]at h;subst h;obtain ⟨n1,b1,c1,rfl⟩:=Wc _ _ h1;obtain ⟨n2,b2,c2,c3,rfl⟩:=bnd _ _ _ h2;exact Asq hm hs m6 hx b1 b2 c1 (by omega) c3 hq.2
    ·cases h
   ·cases h
  ·rename_i hx
   split at h
   ·rename_i q1 q2 h1 h2
    simp only[Option.some.injEq]at h;subst h;exact Aso hm hs m6 hx (Wf _ _ h1) (Wf _ _ h2)
   ·cases h
  ·rename_i s t z off len hx
   split at h
   ·rename_i q1 q2 h1 h2
    split at h
    ·rename_i hq
     simp only[Option.some.injEq]at h;subst h;obtain ⟨n1,b1,c1,rfl⟩:=Wc _ _ h1;obtain ⟨n2,b2,c2,c3,rfl⟩:=bnd _ _ _ h2;exact Asp hm hs m6 hx b1 b2 c1 (by omega) c3 hq.2
    ·cases h
   ·cases h
  ·cases h
 | ext x i =>
  simp only[k6]at h;split at h
  ·rename_i vs hx
   simp only[Option.map_eq_some_iff]at h;obtain ⟨v,hv,rfl⟩:=h;exact Ar7 hm hs m6 hx hv
  ·cases h
 | len x =>
  simp only[k6]at h;split at h
  ·rename_i n hn
   simp only[Option.some.injEq]at h;subst h;exact Ash hm hs m6 hn
  ·cases h
 | mm mx xs =>
  simp only[k6]at h;split at h
  ·cases h
  ·rename_i v r hx
   simp only[Option.map_eq_some_iff]at h;obtain ⟨q,hq,rfl⟩:=h;exact Asl hm hs m6 hx hq
 | app s b7 bytes x y =>
  simp only[k6]at h;split at h
  ·rename_i ys Jo
   split at h
   ·rename_i hz
    split at h
    ·rename_i s' t z len hx
     split at h
     ·rename_i b hb
      split at h
      ·rename_i hn
       obtain ⟨n1,rfl,n3,n4,n5⟩:=hn;simp only[Option.some.injEq]at h;subst h;exact ArU hm hs m6 Jo hz hx hb n1 n3 n4 n5
      ·cases h
     ·cases h
    ·rename_i hx
     split at h
     ·rename_i hn
      simp only[Option.some.injEq]at h;subst h;exact ArT hm hs m6 Jo hz hx hn.1 hn.2
     ·cases h
    ·cases h
   ·cases h
  ·cases h
 | call f xs =>
  simp only[k6]at h;split at h
  ·rename_i vs mi
   simp only[Option.map_eq_some_iff]at h;obtain ⟨r,hr,rfl⟩:=h;exact Ar0 hC hm hs m6 (Avy mi) hr
  ·cases h
 | j6 f xs =>
  simp only[k6,Option.map_eq_some_iff]at h;obtain ⟨r,hr,rfl⟩:=h;exact Ai7 hC hm hs m6 hr
 | Cq ne x =>
  simp only[k6]at h;split at h
  ·rename_i hx
   simp only[Option.some.injEq]at h;subst h;exact AbQ hm hs m6 (b:=true) λ v hv=>by rw[hx]at hv;exact ⟨none,0,0,wO hv,rfl⟩
  ·rename_i b hx
   simp only[Option.some.injEq]at h;subst h;exact AbQ hm hs m6 (b:=b) λ v hv=>by
    rw[hx]at hv;obtain ⟨ad,c,h1,h2⟩:=AiQ hv;exact ⟨ad,0,c,h1,h2⟩
  ·rename_i hx
   simp only[Option.some.injEq]at h;subst h;exact AbQ hm hs m6 (b:=false) λ v hv=>by rw[hx]at hv;exact Arx hv
  ·rename_i hx
   simp only[Option.some.injEq]at h;subst h;exact AbQ hm hs m6 (b:=false) λ v hv=>by rw[hx]at hv;exact Arw hv
  ·cases h
 | bad =>
  have h:(none:Option H5)=some E:=h;cases h
 | iy s f xs =>
  simp only[k6,Option.map_eq_some_iff]at h;obtain ⟨p,hp,rfl⟩:=h;exact Ai7 hC hm hs (Au4 m6) (AbB.1 hp m.own rfl)
 | nw tb x =>
  simp only[k6]at h;split at h
  ·rename_i k n hx
   split at h
   ·rename_i h0
    split at h
    ·rename_i v hv
     simp only[Option.some.injEq]at h;subst h;exact Asn hm hs m6 hx h0 hv
    ·cases h
   ·cases h
  ·cases h
 | zh p f xs =>
  simp only[k6,Option.map_eq_some_iff]at h;obtain ⟨cs,ua,rfl⟩:=h;rw[hC.num];exact Asj hm hs m6 ua
 | v7 f xs =>
  simp only[k6]at h;split at h
  ·rename_i hq
   split at h
   ·rename_i r hr
    split at h
    ·rename_i qe
     simp only[Option.some.injEq]at h;subst h;exact Ar3 hC hm hs m6 hq hr qe
    ·cases h
   ·cases h
  ·cases h
 | ay s f xs =>
  simp only[k6]at h;split at h
  ·rename_i vs mi
   simp only[Option.map_eq_some_iff]at h;obtain ⟨⟨z,es⟩,hr,rfl⟩:=h;exact Ar4 hC hm hs m6 (AvA mi) hr
  ·cases h
 | zi s n x v =>
  simp only[k6]at h;split at h
  ·rename_i s' t i j vs hx mi
   split at h
   ·rename_i hn
    obtain ⟨rfl,hn⟩:=hn;simp only[Option.map_eq_some_iff]at h;obtain ⟨q8,ho,rfl⟩:=h;have:=Ajd hm hs (Avg m6) hx mi hn ho
    intro K Q hK;refine this K Q λ u m' h1 h2 h3 h4=>hK u m' ?_ h2 h3 h4
    rw[h1];exact (Axr ho).symm
   ·cases h
  ·cases h
 | w5 x xs =>
  simp only[k6]at h;split at h
  ·rename_i p f g cs hx
   split at h
   ·rename_i hg
    rw[hC.num]at hg;subst hg;split at h
    ·split at h
     ·rename_i vs mi
      simp only[Option.map_eq_some_iff]at h;obtain ⟨r,hr,rfl⟩:=h;exact Ar2 hC hm hs m6 hx mi hr
     ·cases h
    ·simp only[Option.map_eq_some_iff]at h
     obtain ⟨r,hr,rfl⟩:=h;exact Ar5 hC hm hs m6 hx hr
    ·split at h
     ·rename_i vs mi
      simp only[Option.map_eq_some_iff]at h;obtain ⟨r,hr,rfl⟩:=h;exact Ar1 hC hm hs m6 hx mi hr
     ·cases h
   ·cases h
  ·cases h
end
end Go.c9

namespace Go.c9
open Go.RowKit
def L8 (T:Nat->AV):C4->AV
 | .t n=>T n
 | .c v=>v
def aE (T:Nat->AV) (d:Option Nat) (v:AV):Nat->AV:=λ j=>if d=some j then v else T j
def eF (T:Nat->AV):Option (Nat × Bool)->Option Bool
 | none=>some true
 | some (g,want)=>match T g with
  | .bool b=>some (b == want)
  | .j5 []=>some false
  | _=>none
theorem AjE (st:St):st.ev=L8 (k7 st.tm):=by funext x;cases x<;>rfl
theorem Aup (st:St) (g:Option (Nat × Bool)):OL st g=eF (k7 st.tm) g:=rfl
theorem Ajj (st:St) (d:Option Nat) (v:AV):k7 (st.dst d v).tm=aE (k7 st.tm) d v:=by
 cases d with
 | none=>funext j;simp [St.dst,aE]
 | some d =>
  funext j
  simp only[St.dst,aE,Rk];by_cases h:j=d
  ·simp [h]
  ·simp [h,Ne.symm h]
theorem AqA (st:St) (d:Option Nat) (E:H5):k7 (st.app d E).tm=aE (k7 st.tm) d (E.valOf st.own):=by
 cases E<;>simp only[St.app,H5.valOf]<;>exact Ajj st d _
theorem Ajk (st:St) (d:Option Nat) (v:AV):(st.dst d v).own=st.own:=by cases d<;>rfl
theorem Aqz (st:St) (d:Option Nat) (E:H5):(st.app d E).own=E.fb st.own:=by
 cases E with
 | val v=>simp only[St.app,H5.fb];exact Ajk st d v
 | _=>rfl
section
variable {B:Nat} {S:Nat->Prop} {w0:World} {m0:M} {N:Nat}
variable {P:Program} {num:Nat->Nat} {C:Cl} {Q:Exit->Act->World->Prop}
structure OP (B:Nat) (S:Nat->Prop) (w0:World) (m0:M) (N:Nat) (T:Nat->AV) (m:M) (a:Act):Prop where
 mem:GR B S w0 m
 ext:J8 B S m0 m
 tm : ∀ i,CV B S m (T i) (a.tmps.getD i undef)
 size:a.tmps.size=N
 defers:a.defers=[]
theorem OP.put {T:Nat->AV} {m m':M} {a:Act} (h:OP B S w0 m0 N T m a) (d:Option Nat) (hd : ∀ k,d=some k->k<N) {v:AV} {u:Value} (hm:GR B S w0 m') (he:J8 B S m m') (hc:CV B S m' v u):OP B S w0 m0 N (aE T d v) m' (a.put d u):=by
 refine ⟨hm,h.ext.trans he,λ i => ?_,?_,?_⟩
 ·cases d with
  | none=>simpa [aE,Act.put] using he.cv (h.tm i)
  | some k =>
   have hk:k<a.tmps.size:=by rw[h.size];exact hd k rfl
   by_cases Yf:i=k
   ·subst Yf
    simp only[aE,if_true,Act.put];simpa [Array.getD,hk] using hc
   ·have u5 : ¬ (some k=some i):=λ e=>Yf (by simpa using e.symm)
    simp only[aE,if_neg u5,Act.put];have:(a.tmps.setIfInBounds k u).getD i undef=a.tmps.getD i undef:=by
     simp [Array.getElem?_setIfInBounds_ne (Ne.symm Yf)]
    rw[this];exact he.cv (h.tm i)
 ·cases d<;>simp [Act.put,h.size]
 ·cases d<;>simpa [Act.put] using h.defers
theorem OP.says {T:Nat->AV} {m:M} {a:Act} (h:OP B S w0 m0 N T m a):I0 B S m (L8 T) a.eval:=AwU (λ_=>rfl) (λ_=>rfl) h.tm
theorem Ax0 {T:Nat->AV} {m:M} {a:Act} (h:OP B S w0 m0 N T m a) {ops:Array Oper} {o:Oper} {g':Option (Nat × Bool)} (hg:Sb ops o.guard g'=true) {g:Bool} (yh:eF T g'=some g):Region.wanted o (yielded ops a.tmps)=g:=by
 unfold Region.wanted;cases hog:o.guard with
 | none =>
  cases g' with
  | none=>simp [eF]at yh;simp [yh]
  | some _=>simp [Sb,hog]at hg
 | some jw =>
  obtain ⟨j,want⟩:=jw;cases g' with
  | none=>simp [Sb,hog]at hg
  | some tw =>
   obtain ⟨t,AMn⟩:=tw;simp only[Sb,hog,Bool.and_eq_true,beq_iff_eq]at hg;obtain ⟨rfl,hg⟩:=hg;split at hg
   ·rename_i oj hoj
    have AEa:oj.dst=some t:=by simpa using hg
    have du:=h.tm t;simp only[eF]at yh;unfold yielded;simp only[hoj,Option.bind_some,AEa];split at yh
    ·rename_i b hb
     rw[hb]at du;have hv:=tP du;have z9:a.tmps[t]? = some (.bool b):=by
      cases ht:a.tmps[t]? with
      | none=>simp [ht,undef]at hv
      | some x=>simp [ht]at hv;rw[hv]
     simp only[z9];simp at yh;rw[<-yh];cases b<;>cases want<;>rfl
    ·rename_i hb
     rw[hb]at du;obtain ⟨vs,hv,hl,_⟩:=Ad9 du;have:vs=[]:=List.eq_nil_of_length_eq_zero (by simpa using hl.symm)
     subst this;simp at yh;subst yh;cases ht:a.tmps[t]? with
     | none=>rfl
     | some x =>
      simp [ht]at hv;subst hv;rfl
    ·cases yh
   ·cases hg
theorem AoB (hC:QY P num C) {ops:Array Oper} {i:Nat} {o:Oper} {ai:AI} (hi:ops[i]? = some o) (m6:okI P num N ops o ai=true) {T:Nat->AV} {m:M} {a:Act} (hf:OP B S w0 m0 N T m a) {g:Bool} (hg:eF T ai.guard=some g) {E:H5}
  (hE:g=true->k6 C ai.c4 (L8 T) m.own ai.op=some E) {K:Act->World->Prop} (hK : ∀ m' a',m'.own=(if g then E.fb m.own else m.own)->OP B S w0 m0 N (aE T ai.dst (if g then E.valOf m.own else .j5 [])) m' a'->K a' m'.w):wpOp P ops Q i K a m.w:=by
 simp only[okI,Bool.and_eq_true,beq_iff_eq]at m6;obtain ⟨⟨⟨h1,h2⟩,h3⟩,h4⟩:=m6;have hd : ∀ k,o.dst=some k->k<N:=λ k hk=>by
  rw[h1]at hk;rw[hk]at h2;simpa using h2
 unfold wpOp;simp only[hi,Ax0 hf h3 hg];cases g with
 | true =>
  simp only[if_true];refine .inl (AsI hC hf.mem hf.says h4 (hE rfl) K Q λ u m' n9 vj nn du => ?_);refine hK m' _ (by simpa using n9) ?_;rw[<-h1];exact hf.put o.dst hd vj nn du
 | false =>
  simp only[Bool.false_eq_true,if_false];refine hK m _ (by simp) ?_;rw[<-h1];exact hf.put o.dst hd hf.mem (J8.refl m) Al6
theorem AnH {o:AI} {st n0:St} (h:JE C o st=some n0) : ∃ g E,eF (k7 st.tm) o.guard=some g/\(g=true->k6 C o.c4 (L8 (k7 st.tm)) st.own o.op=some E)/\k7 n0.tm=aE (k7 st.tm) o.dst (if g then E.valOf st.own else .j5 [])/\n0.own=(if g then E.fb st.own else st.own):=by
 unfold JE at h;rw[Aup]at h;cases hg:eF (k7 st.tm) o.guard with
 | none=>simp [hg]at h
 | some g =>
  cases g with
  | true =>
   simp only[hg,Option.map_eq_some_iff]at h;obtain ⟨E,hE,rfl⟩:=h;rw[AjE]at hE;exact ⟨true,E,rfl,λ_=>hE,AqA st o.dst E,Aqz st o.dst E⟩
  | false =>
   simp only[hg,Option.some.injEq]at h;subst h;exact ⟨false,.val .any,rfl,λ h=>(by cases h),Ajj st o.dst _,Ajk st o.dst _⟩
theorem Si {ops:Array Oper} : ∀ {os:List Oper} {l:List AI},qN P num N ops os l=true->os.length=l.length /\ ∀ (i:Nat) (o:Oper) (x:AI),os[i]? = some o->l[i]? = some x->okI P num N ops o x=true
 | [],[],_=>⟨rfl,λ i o x h=>by simp at h⟩
 | o::r,x::l,h=>by
  simp only[qN,Bool.and_eq_true]at h;obtain ⟨h1,h2⟩:=Si h.2;refine ⟨by simp [h1],λ i o' x' ho hx => ?_⟩;cases i with
  | zero=>simp at ho hx;subst ho hx;exact h.1
  | succ i=>exact h2 i o' x' (by simpa using ho) (by simpa using hx)
 | [],_::_,h=>by simp [qN]at h
 | _::_,[],h=>by simp [qN]at h
theorem AoC (hC:QY P num C) {ops:Array Oper} {l:List AI} (m6:qN P num N ops ops.toList l=true) : ∀ (n k:Nat) (st n0:St) (m:M) (a:Act),n+k=ops.size->JZ C (l.drop k) st=some n0->m.own=st.own->OP B S w0 m0 N (k7 st.tm) m a ->
  (∀ m' a',m'.own=n0.own->OP B S w0 m0 N (k7 n0.tm) m' a'->Q .normal a' m'.w)->wpOps P ops Q (List.range' k n) a m.w
 | 0,k,st,n0,m,a,hk,hs,n9,hf,hQ=>by
  have hl:=(Si m6).1;simp at hl;rw[List.drop_eq_nil_of_le (by omega)]at hs;simp only[JZ,Option.some.injEq]at hs;subst hs;simpa [wpOps] using hQ m a n9 hf
 | n+1,k,st,n0,m,a,hk,hs,n9,hf,hQ=>by
  obtain ⟨hl,hg⟩:=Si m6;simp at hl;have Nj:k<l.length:=by omega
  have hko:k<ops.size:=by omega
  rw[List.drop_eq_getElem_cons Nj]at hs;simp only[JZ]at hs;cases o4:JE C l[k] st with
  | none=>simp [o4]at hs
  | some E7 =>
   simp only[o4]at hs;obtain ⟨g,E,h1,h2,h3,h4⟩:=AnH o4;rw[List.range'_succ,wpOps_cons];have hoi:ops[k]? = some ops[k]:=Array.getElem?_eq_getElem hko;refine AoB hC hoi (hg k ops[k] l[k] (by simp [hko]) (zE Nj)) hf h1 (λ lq=>by rw[n9];exact h2 lq) λ m' a' uc xg => ?_
   refine AoC hC m6 n (k+1) E7 n0 m' a' (by omega) hs ?_ ?_ hQ
   ·rw[uc,n9,h4]
   ·rw[n9]at xg
    rw[h3];exact xg
end
end Go.c9

namespace Go.c9
open Go.RowKit
section
variable {T T':Nat->AV} {C:Cl} {c4:List Nat} {own:C2}
theorem LH {x:C4} (h : ∀ t∈JS x,T t=T' t):L8 T x=L8 T' x:=by
 cases x with
 | t n=>exact h n (by simp [JS])
 | c v=>rfl
theorem uO {xs:List C4} (h : ∀ t∈xs.flatMap JS,T t=T' t):xs.map (L8 T)=xs.map (L8 T') :=
 List.map_congr_left λ x hx=>LH λ t ht=>h t (List.mem_flatMap.2 ⟨x,hx,ht⟩)
theorem Amw {x:Option C4} (h : ∀ t∈Af3 x,T t=T' t) {y:C4} (hy:x=some y):L8 T y=L8 T' y:=by
 subst hy;exact LH h
theorem AsD {op:K8} (h : ∀ t∈YB op,T t=T' t):k6 C c4 (L8 T) own op=k6 C c4 (L8 T') own op:=by
 cases op with
 | build z ps =>
  simp only[k6];congr 2;refine List.map_congr_left λ p hp => ?_
  rw[LH (x:=p.2.2) λ t ht=>h t (by simp only[YB];exact List.mem_flatMap.2 ⟨p,hp,ht⟩)]
 | a9 s b7 ps =>
  have hm:ps.mapM (λ x=>cellsOf (L8 T x))=ps.mapM (λ x=>cellsOf (L8 T' x)):=by
   have e : ∀ l:List C4,(∀ x∈l,L8 T x=L8 T' x)->l.mapM (λ x=>cellsOf (L8 T x))=l.mapM (λ x=>cellsOf (L8 T' x)):=by
    intro l;induction l with
    | nil=>intro _;rfl
    | cons x r ih=>intro hl;simp only[List.mapM_cons];rw[hl x (by simp),ih λ y hy=>hl y (by simp [hy])]
   exact e ps λ x hx=>LH λ t ht=>h t (by simp only[YB];exact List.mem_flatMap.2 ⟨x,hx,ht⟩)
  simp only[k6,hm]
 | mm mx xs=>simp only[k6];rw[uO (xs:=xs) h]
 | call f xs=>simp only[k6];rw[uO (xs:=xs) h]
 | j6 f xs=>simp only[k6];rw[uO (xs:=xs) h]
 | Cq ne x=>simp only[k6];rw[LH (x:=x) h]
 | bad=>rfl
 | nw tb x=>simp only[k6];rw[LH (x:=x) h]
 | zh p f xs =>
  have e : ∀ l:List C4,(∀ x∈l,L8 T x=L8 T' x)->l.mapM (λ x=>QL (L8 T x))=l.mapM (λ x=>QL (L8 T' x)):=by
   intro l;induction l with
   | nil=>intro _;rfl
   | cons x r ih=>intro hl;simp only[List.mapM_cons];rw[hl x (by simp),ih λ y hy=>hl y (by simp [hy])]
  simp only[k6];rw[e xs λ x hx=>LH λ t ht=>h t (by simp only[YB];exact List.mem_flatMap.2 ⟨x,hx,ht⟩)]
 | v7 f xs=>simp only[k6];rw[uO (xs:=xs) h]
 | ay s f xs=>simp only[k6];rw[uO (xs:=xs) h]
 | iy s f xs=>simp only[k6];rw[uO (xs:=xs) h]
 | zi s n x v =>
  simp only[YB,List.mem_append]at h;simp only[k6];rw[LH (x:=x) λ t ht=>h t (.inl ht),LH (x:=v) λ t ht=>h t (.inr ht)]
 | w5 x xs =>
  simp only[YB,List.mem_append]at h;simp only[k6];rw[LH (x:=x) λ t ht=>h t (.inl ht),uO (xs:=xs) λ t ht=>h t (.inr ht)]
 | kv b7 x lo hi =>
  simp only[YB,List.mem_append]at h;have hx:L8 T x=L8 T' x:=LH λ t ht=>h t (.inl (.inl ht))
  have yn : ∀ y,lo=some y->L8 T y=L8 T' y:=λ y hy=>Amw (λ t ht=>h t (.inl (.inr ht))) hy
  have hhi : ∀ y,hi=some y->L8 T y=L8 T' y:=λ y hy=>Amw (λ t ht=>h t (.inr ht)) hy
  simp only[k6,hx];cases lo with
  | none=>cases hi with
   | none=>rfl
   | some y=>simp only[hhi y rfl]
  | some z=>cases hi with
   | none=>simp only[yn z rfl]
   | some y=>simp only[yn z rfl,hhi y rfl]
 | gj=>rfl
 | alloc=>rfl
 | y7 x=>simp only[k6];rw[LH (x:=x) h]
 | un f x=>simp only[k6];rw[LH (x:=x) h]
 | conv k x=>simp only[k6];rw[LH (x:=x) h]
 | box s x=>simp only[k6];rw[LH (x:=x) h]
 | m4 x off=>simp only[k6];rw[LH (x:=x) h]
 | ye x off n agg=>simp only[k6];rw[LH (x:=x) h]
 | ld agg n x=>simp only[k6];rw[LH (x:=x) h]
 | ext x i=>simp only[k6];rw[LH (x:=x) h]
 | len x=>simp only[k6];rw[LH (x:=x) h]
 | pick c x y =>
  simp only[YB,List.mem_append]at h;simp only[k6];rw[LH (x:=c) λ t ht=>h t (.inl (.inl ht)),LH (x:=x) λ t ht=>h t (.inl (.inr ht)),LH (x:=y) λ t ht=>h t (.inr ht)]
 | bin f x y =>
  simp only[YB,List.mem_append]at h;simp only[k6];rw[LH (x:=x) λ t ht=>h t (.inl ht),LH (x:=y) λ t ht=>h t (.inr ht)]
 | beq ne x y =>
  simp only[YB,List.mem_append]at h;simp only[k6];rw[LH (x:=x) λ t ht=>h t (.inl ht),LH (x:=y) λ t ht=>h t (.inr ht)]
 | ch arr b7 x i =>
  simp only[YB,List.mem_append]at h;simp only[k6];rw[LH (x:=x) λ t ht=>h t (.inl ht),LH (x:=i) λ t ht=>h t (.inr ht)]
 | st n x v =>
  simp only[YB,List.mem_append]at h;simp only[k6];rw[LH (x:=x) λ t ht=>h t (.inl ht),LH (x:=v) λ t ht=>h t (.inr ht)]
 | mk s b7 bytes z l c =>
  simp only[YB,List.mem_append]at h;simp only[k6];rw[LH (x:=l) λ t ht=>h t (.inl ht),LH (x:=c) λ t ht=>h t (.inr ht)]
 | app s b7 bytes x y =>
  simp only[YB,List.mem_append]at h;simp only[k6];rw[LH (x:=x) λ t ht=>h t (.inl ht),LH (x:=y) λ t ht=>h t (.inr ht)]
theorem Ale (o:C2) (l:List Nat) (s:Nat):o.w6 l s=if s∈l then ⟨0,λ_=>none⟩ else o s:=by
 induction l with
 | nil=>simp [C2.w6]
 | cons x r ih =>
  simp only[C2.w6,List.mem_cons];by_cases h:s=x
  ·simp [h]
  ·rw[if_neg h,ih]
   simp [h]
theorem AuQ {o o':C2} {l:List Nat} (h : ∀ s,s ∉ l->o s=o' s):o.w6 l=o'.w6 l:=by
 funext s
 rw[Ale,Ale];split
 ·rfl
 ·rename_i hs;exact h s hs
end
section
variable {ops:Array Oper}
def inner (acc:Array Nat) (o:Oper):Nat:=o.after.foldl (λ s e=>if Region.binds .any e then s ||| 2^e.on ||| acc.getD e.on 0 else s) 0
theorem AuT (acc:Array Nat) (o:Oper) (j:Nat) (h:(inner acc o).testBit j=true) : ∃ e∈o.after,Region.binds .any e=true/\(e.on=j\/(acc.getD e.on 0).testBit j=true):=by
 unfold inner at h;rw[<-Array.foldl_toList]at h;have key : ∀ (l:List Edge) (s:Nat),(l.foldl (λ s e=>if Region.binds .any e then s ||| 2^e.on ||| acc.getD e.on 0 else s) s).testBit j=true->s.testBit j=true \/ ∃ e∈l,Region.binds .any e=true/\(e.on=j\/(acc.getD e.on 0).testBit j=true):=by
  intro l;induction l with
  | nil=>intro s hs;exact .inl hs
  | cons e r ih =>
   intro s hs;simp only[List.foldl_cons]at hs;rcases ih _ hs with h1|⟨e',oz,h2⟩
   ·by_cases hb:Region.binds .any e=true
    ·simp only[hb,if_true,Nat.testBit_or,Bool.or_eq_true,Nat.testBit_two_pow,decide_eq_true_eq]at h1
     rcases h1 with (h1|h1)|h1
     ·exact .inl h1
     ·exact .inr ⟨e,by simp,hb,.inl h1⟩
     ·exact .inr ⟨e,by simp,hb,.inr h1⟩
    ·simp only[hb,Bool.false_eq_true,if_false]at h1
     exact .inl h1
   ·exact .inr ⟨e',by simp [oz],h2⟩
 rcases key _ _ h with h|⟨e,he,h⟩
 ·simp at h
 ·exact ⟨e,by simpa using he,h⟩
theorem AqD (i j:Nat) (h:((Region.before ops).getD i 0).testBit j=true) : ∃ o,ops[i]? = some o /\ ∃ e∈o.after,Region.binds .any e=true/\(e.on=j\/(e.on<i/\((Region.before ops).getD e.on 0).testBit j=true)):=by
 have key : ∀ (rest:List Oper) (done:List Oper) (acc:Array Nat),acc.size=done.length ->
   (∀ i j,(acc.getD i 0).testBit j=true -> ∃ o,done[i]? = some o /\ ∃ e∈o.after,Region.binds .any e=true/\(e.on=j\/(e.on<i/\(acc.getD e.on 0).testBit j=true))) ->
   ∀ i j,((rest.foldl (λ acc o=>acc.push (inner acc o)) acc).getD i 0).testBit j=true -> ∃ o,(done++rest)[i]? = some o /\ ∃ e∈o.after,Region.binds .any e=true/\(e.on=j\/(e.on<i/\((rest.foldl (λ acc o=>acc.push (inner acc o)) acc).getD e.on 0).testBit j=true)):=by
  intro rest;induction rest with
  | nil=>intro done acc hs hinv i j hj;simpa using hinv i j hj
  | cons o r ih =>
   intro done acc hs hinv i j hj;simp only[List.foldl_cons]at hj ⊢;have:=ih (done++[o]) (acc.push (inner acc o)) (by simp [hs]) (λ i j Le => ?_) i j hj
   ·simpa using this
   ·have z9 : ∀ k,k<acc.size->(acc.push (inner acc o)).getD k 0=acc.getD k 0:=λ k hk=>by
     simp [Array.getD,hk,Nat.lt_succ_of_lt hk,Array.getElem_push_lt hk]
    by_cases hi:i<acc.size
    ·rw[z9 i hi]at Le
     obtain ⟨o',Iq,e,he,hb,lu⟩:=hinv i j Le;refine ⟨o',by rw[List.getElem?_append_left (by omega)];exact Iq,e,he,hb,lu.imp id λ⟨h1,h2⟩=>⟨h1,by rw[z9 e.on (by omega)];exact h2⟩⟩
    ·have hie:i=acc.size:=by
      rcases Nat.lt_or_ge i (acc.push (inner acc o)).size with h1|h1
      ·simp at h1;omega
      ·have:(acc.push (inner acc o)).getD i 0=0:=by simp [Array.getD];intro h2;simp at h1;omega
       rw[this]at Le;simp at Le
     subst hie;have rh:(acc.push (inner acc o)).getD acc.size 0=inner acc o:=by simp [Array.getD]
     rw[rh]at Le;obtain ⟨e,he,hb,lu⟩:=AuT acc o j Le;refine ⟨o,by rw[hs];simp,e,he,hb,lu.imp id λ h2 => ?_⟩;have o5:e.on<acc.size:=by
      rcases Nat.lt_or_ge e.on acc.size with h3|h3
      ·exact h3
      ·have:acc.getD e.on 0=0:=by simp [Array.getD];omega
       rw[this]at h2;simp at h2
     exact ⟨o5,by rw[z9 e.on o5];exact h2⟩
 have hb:Region.before ops=ops.toList.foldl (λ acc o=>acc.push (inner acc o)) #[]:=by
  unfold Region.before;rw[<-Array.foldl_toList];rfl
 rw[hb]at h ⊢;have:=key ops.toList [] #[] rfl (λ i j Le=>by simp at Le) i j h
 simpa using this
def vT (ops:Array Oper) (X:Nat->Bool):Prop := ∀ j o,X j=true->ops[j]? = some o -> ∀ e∈o.after,Region.binds .any e=true->X e.on=true
theorem anc {X:Nat->Bool} (hX:vT ops X) : ∀ (i:Nat),(∀ o,ops[i]? = some o -> ∀ e∈o.after,Region.binds .any e=true->X e.on=true) -> ∀ j,((Region.before ops).getD i 0).testBit j=true->X j=true:=by
 intro i;induction i using Nat.strongRecOn with
 | ind i ih =>
  intro hi j hj;obtain ⟨o,ho,e,he,hb,lu⟩:=AqD i j hj;have hx:=hi o ho e he hb;rcases lu with h|⟨o5,h⟩
  ·rw[<-h];exact hx
  ·exact ih e.on o5 (λ o' Iq e' oz o8=>hX e.on o' hx Iq e' oz o8) j h
theorem Av6 {X:Nat->Bool} (hX:vT ops X) {i j:Nat} (hi : ∀ o,ops[i]? = some o -> ∀ e∈o.after,Region.binds .any e=true->X e.on=true) (o5:j<i) (h:Y2 (Region.before ops) i j=true):X j=true:=by
 unfold Y2 at h;rw[Nat.max_eq_left (by omega),Nat.min_eq_right (by omega)]at h;exact anc hX i hi j h
theorem Amy {X:Nat->Bool} (hX:vT ops X) {i j:Nat} (hj:X j=true) (o5:i<j) (h:Y2 (Region.before ops) i j=true):X i=true:=by
 unfold Y2 at h;rw[Nat.max_eq_right (by omega),Nat.min_eq_left (by omega)]at h;exact anc hX j (λ o ho e he hb=>hX j o hj ho e he hb) i h
end
section
variable {C:Cl}
abbrev D:=(Nat->AV) × C2
structure LD where
 d:Option Nat
 g:Bool
 E:H5
 v:AV
def LD.own (r:LD) (o:C2):C2:=if r.g then r.E.fb o else o
def LD.act (r:LD) (x:D):D:=(aE x.1 r.d r.v,r.own x.2)
structure vU (C:Cl) (x:AI) (r:LD) (s s':St):Prop where
 d:r.d=x.dst
 g:eF (k7 s.tm) x.guard=some r.g
 E:r.g=true->k6 C x.c4 (L8 (k7 s.tm)) s.own x.op=some r.E
 v:r.v=(if r.g then r.E.valOf s.own else .j5 [])
 act:(k7 s'.tm,s'.own)=r.act (k7 s.tm,s.own)
theorem trace : ∀ {l:List AI} {st n0:St},JZ C l st=some n0 -> ∃ (σ:Nat->St) (rs:List LD),σ 0=st/\σ l.length=n0/\rs.length=l.length /\ ∀ (k:Nat) (x:AI) (r:LD),l[k]? = some x->rs[k]? = some r->vU C x r (σ k) (σ (k+1))
 | [],st,n0,h=>by
  simp only[JZ,Option.some.injEq]at h;subst h;exact ⟨λ_=>st,[],rfl,rfl,rfl,λ k x r hx=>by simp at hx⟩
 | o::q,st,n0,h=>by
  simp only[JZ]at h;cases hs:JE C o st with
  | none=>simp [hs]at h
  | some E7 =>
   simp only[hs]at h;obtain ⟨σ,rs,h0,h1,hl,h2⟩:=trace h;obtain ⟨g,E,e1,e2,e3,e4⟩:=AnH hs;refine ⟨λ k=>match k with|0=>st|k+1=>σ k,⟨o.dst,g,E,if g then E.valOf st.own else .j5 []⟩::rs,rfl,h1,by simp [hl],λ k x r hx hr => ?_⟩;cases k with
   | zero =>
    simp at hx hr;subst hx hr;refine ⟨rfl,e1,e2,rfl,?_⟩;show (k7 (σ 0).tm,(σ 0).own)=_;rw[h0,e3,e4];rfl
   | succ k=>exact h2 k x r (by simpa using hx) (by simpa using hr)
def KS (X:Nat->Bool):List LD->Nat->D->D
 | [],_,x=>x
 | r::rs,k,x=>KS X rs (k+1) (if X k then r.act x else x)
theorem Ae4 (X:Nat->Bool) : ∀ (l l':List LD) (k:Nat) (x:D),KS X (l++l') k x=KS X l' (k+l.length) (KS X l k x)
 | [],l',k,x=>by simp [KS]
 | r::rs,l',k,x=>by
  simp only[List.cons_append,KS,List.length_cons];rw[Ae4 X rs l' (k+1)];congr 1;omega
theorem AkI {X Y:Nat->Bool} {t:Nat} : ∀ (l:List LD) (k:Nat) (x y:D),x.1 t=y.1 t->(∀ i r,l[i]? = some r->r.d=some t->X (k+i)=Y (k+i))->(KS X l k x).1 t=(KS Y l k y).1 t
 | [],k,x,y,h,_=>h
 | r::rs,k,x,y,h,Eg=>by
  simp only[KS];refine AkI rs (k+1) _ _ ?_ λ i r' hr hd=>by
   have:=Eg (i+1) r' (by simpa using hr) hd
   rw[show k+1+i=k+(i+1) by omega];exact this
  by_cases hd:r.d=some t
  ·have hx:X k=Y k:=by simpa using Eg 0 r rfl hd
   rw[hx];cases Y k
   ·simpa using h
   ·simp [LD.act,aE,hd]
  ·have e1 : ∀ z:D,(r.act z).1 t=z.1 t:=λ z=>by simp [LD.act,aE,hd]
   cases X k<;>cases Y k<;>simp [e1,h]
theorem Av7 (E:H5) (s:Nat) (o o':C2) (h:o s=o' s):E.fb o s=E.fb o' s:=by
 cases E with
 | val v=>exact h
 | new s' b v =>
  simp only[H5.fb,C2.put];by_cases hs:s=s'
  ·subst hs;simp [h]
  ·simp [hs,h]
 | Kj s' b v =>
  simp only[H5.fb,C2.put];by_cases hs:s=s'
  ·subst hs;simp [h]
  ·simp [hs,h]
 | mn v o2=>rfl
 | Hl s' x v =>
  simp only[H5.fb,C2.put];by_cases hs:s=s'
  ·simp [hs]
  ·simp [hs,h]
 | cr s' x =>
  simp only[H5.fb,C2.put];by_cases hs:s=s'
  ·simp [hs]
  ·simp [hs,h]
theorem AkH {X Y:Nat->Bool} {s:Nat} : ∀ (l:List LD) (k:Nat) (x y:D),x.2 s=y.2 s->(∀ i r,l[i]? = some r->X (k+i)=Y (k+i) \/ ∀ o,r.own o s=o s)->(KS X l k x).2 s=(KS Y l k y).2 s
 | [],k,x,y,h,_=>h
 | r::rs,k,x,y,h,Eg=>by
  simp only[KS];refine AkH rs (k+1) _ _ ?_ λ i r' hr=>by
   have:=Eg (i+1) r' (by simpa using hr)
   rw[show k+1+i=k+(i+1) by omega];exact this
  rcases Eg 0 r rfl with hx|hx
  ·simp only[Nat.add_zero]at hx
   rw[hx];cases Y k
   ·simpa using h
   ·simp only[if_true,LD.act,LD.own]
    cases r.g
    ·simpa using h
    ·simpa using Av7 r.E s _ _ h
  ·have e1 : ∀ z:D,(r.act z).2 s=z.2 s:=λ z=>hx z.2
   cases X k<;>cases Y k<;>simp [e1,h]
theorem Ae7 {X:Nat->Bool} (q:LD) : ∀ (l:List LD) (k:Nat) (x:D),(∀ i r,l[i]? = some r->X (k+i)=true -> ∀ z,r.act (q.act z)=q.act (r.act z))->KS X l k (q.act x)=q.act (KS X l k x)
 | [],k,x,_=>rfl
 | r::rs,k,x,h=>by
  simp only[KS];have jq : ∀ i r',rs[i]? = some r'->X (k+1+i)=true -> ∀ z,r'.act (q.act z)=q.act (r'.act z):=λ i r' hr hX=>h (i+1) r' (by simpa using hr) (by rw[show k+(i+1)=k+1+i by omega];exact hX)
  cases hk:X k
  ·simp only[Bool.false_eq_true,if_false]
   exact Ae7 q rs (k+1) x jq
  ·simp only[if_true]
   rw[h 0 r rfl (by simpa using hk)];exact Ae7 q rs (k+1) _ jq
theorem Ab3 {X Y:Nat->Bool} : ∀ (l:List LD) (k:Nat) (x:D),(∀ i,i<l.length->X (k+i)=Y (k+i))->KS X l k x=KS Y l k x
 | [],_,_,_=>rfl
 | r::rs,k,x,h=>by
  simp only[KS];rw[show X k=Y k by simpa using h 0 (by simp)];exact Ab3 rs (k+1) _ λ i hi=>by
   have:=h (i+1) (by simpa using hi)
   rw[show k+1+i=k+(i+1) by omega];exact this
theorem AkG {X X':Nat->Bool} {l:List LD} {i:Nat} {q:LD} (hq:l[i]? = some q) (vb:X i=false) (Gw : ∀ j,X' j=(decide (j=i)||X j)) (x:D) (Xu : ∀ j r,l[j]? = some r->i<j->X j=true -> ∀ z,r.act (q.act z)=q.act (r.act z)) :
  KS X' l 0 x=q.act (KS X l 0 x):=by
 have qg:i<l.length:=(zS hq).1;have hli:l=l.take i++(q::l.drop (i+1)):=by
  have:l.drop i=q::l.drop (i+1):=by
   rw[List.drop_eq_getElem_cons qg];congr 1;have:=(zS hq).2
   exact this
  rw[<-this,List.take_append_drop]
 have te:(l.take i).length=i:=by simp;omega
 rw[hli,Ae4,Ae4,te,Nat.zero_add];simp only[KS,vb,Bool.false_eq_true,if_false];rw[show X' i=true by rw[Gw];simp];simp only[if_true];rw[Ab3 (X:=X') (Y:=X) (l.take i) 0 x (λ j hj=>by rw[Gw];simp;omega)];rw[Ab3 (X:=X') (Y:=X) (l.drop (i+1)) (i+1) _ (λ j hj=>by rw[Gw];simp;omega)];refine Ae7 q _ _ _ λ j r hr hXj => ?_
 rw[List.getElem?_drop]at hr;exact Xu (i+1+j) r hr (by omega) hXj
end
end Go.c9

namespace Go.c9
open Go.RowKit
section
variable {C:Cl} {c4:List Nat} {ρ:C4->AV}
theorem AsG {op:K8} (o o':C2) (ht:QW op=false) (hr:Sz op=true->o.w6 c4=o'.w6 c4) (o4 : ∀ s,MQ op=some s->o s=o' s):k6 C c4 ρ o op=k6 C c4 ρ o' op:=by
 cases op with
 | zi s n x v =>
  have h1:=o4 s rfl;have h2 : ∀ t i j vs,(o.yc s t i j vs).map (λ q=>H5.cr s (q s))=(o'.yc s t i j vs).map (λ q=>H5.cr s (q s)):=λ t i j vs=>by
   have hg:o.get s t=o'.get s t:=by unfold C2.get;rw[h1]
   unfold C2.yc;rw[hg];cases o'.get s t with
   | none=>rfl
   | some b =>
    simp only;cases b.es[i]? with
    | none=>rfl
    | some cs =>
     simp only;split
     ·simp only[Option.map_some,C2.n6,h1]
     ·rfl
  simp only[k6,h2]
 | ld agg n x=>have:=hr rfl;simp only[k6,this]
 | call f xs=>have:=hr rfl;simp only[k6,this]
 | ay s f xs=>have:=hr rfl;simp only[k6,this]
 | iy s f xs=>have h1:=o4 s rfl;simp only[k6,h1]
 | st=>simp [QW]at ht
 | app=>simp [QW]at ht
 | j6=>simp [QW]at ht
 | w5=>simp [QW]at ht
 | _=>rfl
theorem Ajo {op:K8} {o:C2} {E:H5} (h:k6 C c4 ρ o op=some E) {s:Nat} (hs:MQ op=some s):(∃ b v,E = .new s b v\/E = .Kj s b v) \/ ∃ x v,E = .cr s x\/E = .Hl s x v:=by
 cases op with
 | zi s' n x v =>
  simp only[MQ,Option.some.injEq]at hs;subst hs;simp only[k6]at h;split at h
  ·split at h
   ·simp only[Option.map_eq_some_iff]at h
    obtain ⟨q,_,rfl⟩:=h;exact .inr ⟨_,.any,.inl rfl⟩
   ·cases h
  ·cases h
 | ay s' f xs =>
  simp only[MQ,Option.some.injEq]at hs;subst hs;simp only[k6]at h;split at h
  ·simp only[Option.map_eq_some_iff]at h
   obtain ⟨r,_,rfl⟩:=h;exact .inl ⟨_,_,.inl rfl⟩
  ·cases h
 | iy s' f xs =>
  simp only[MQ,Option.some.injEq]at hs;subst hs;simp only[k6,Option.map_eq_some_iff]at h;obtain ⟨p,_,rfl⟩:=h;exact .inr ⟨_,_,.inr rfl⟩
 | gj s' z =>
  simp only[MQ,Option.some.injEq]at hs;subst hs;simp only[k6,Option.some.injEq]at h;exact .inl ⟨_,_,.inr h.symm⟩
 | box s' x =>
  simp only[MQ,Option.some.injEq]at hs;subst hs;simp only[k6]at h;split at h
  ·simp only[Option.some.injEq]at h;exact .inl ⟨_,_,.inl h.symm⟩
  ·cases h
 | alloc s' z =>
  simp only[MQ,Option.some.injEq]at hs;subst hs;simp only[k6,Option.some.injEq]at h;exact .inl ⟨_,_,.inl h.symm⟩
 | a9 s' b7 ps =>
  simp only[MQ,Option.some.injEq]at hs;subst hs;simp only[k6]at h;split at h
  ·split at h
   ·simp only[Option.some.injEq]at h;exact .inl ⟨_,_,.inl h.symm⟩
   ·cases h
  ·cases h
 | mk s' b7 bytes z l c =>
  simp only[MQ,Option.some.injEq]at hs;subst hs;simp only[k6]at h;split at h
  ·split at h
   ·simp only[Option.some.injEq]at h;exact .inl ⟨_,_,.inl h.symm⟩
   ·cases h
  ·cases h
 | _=>simp [MQ]at hs
theorem AfA {α:Type} {x:Option α} {f:α->AV} {E:H5} (h:x.map (λ y=>H5.val (f y))=some E) : ∃ v,E = .val v:=by
 cases x with
 | none=>cases h
 | some y=>simp only[Option.map_some,Option.some.injEq]at h;exact ⟨_,h.symm⟩
theorem Ajp {op:K8} {o:C2} {E:H5} (h:k6 C c4 ρ o op=some E) (ht:QW op=false) (hs:MQ op=none) : ∃ v,E = .val v:=by
 cases op<;>first|(simp [QW]at ht;done)|(simp [MQ]at hs;done)|skip
 all_goals simp only[k6]at h
 all_goals
  first
   | (simp only[Option.some.injEq]at h;exact ⟨_,h.symm⟩)
   | exact AfA (f:=id) h
   | skip
 all_goals (repeat' split at h)
 all_goals
  first
   | (cases h;done)
   | (simp only[Option.some.injEq]at h;exact ⟨_,h.symm⟩)
   | exact AfA (f:=id) h
   | exact AfA (f:=AV.agg) h
   | (simp only[Option.map_eq_some_iff]at h;obtain ⟨cs,_,rfl⟩:=h;exact ⟨_,rfl⟩)
theorem uS {x:AI} {r:LD} {s s':St} (h:vU C x r s s') (ht:QW x.op=false) (hs:MQ x.op=none) (o:C2):r.own o=o:=by
 unfold LD.own;cases hg:r.g with
 | false=>rfl
 | true =>
  obtain ⟨v,hv⟩:=Ajp (h.E hg) ht hs;simp [hv,H5.fb]
theorem Agf {x:AI} {r:LD} {s s':St} (h:vU C x r s s') {q:Nat} (hs:MQ x.op=some q):(∀ o,r.own o=o) \/ ∃ F:H1->H1,∀ o:C2,r.own o=o.put q (F (o q)):=by
 unfold LD.own;cases hg:r.g with
 | false=>exact .inl λ_=>rfl
 | true =>
  rcases Ajo (h.E hg) hs with ⟨b,v,hv|hv⟩|⟨x,v,hv|hv⟩
  ·exact .inr ⟨λ q=>q.new b,λ o=>by simp [hv,H5.fb]⟩
  ·exact .inr ⟨λ q=>q.new b,λ o=>by simp [hv,H5.fb]⟩
  ·exact .inr ⟨λ_=>x,λ o=>by simp [hv,H5.fb]⟩
  ·exact .inr ⟨λ_=>x,λ o=>by simp [hv,H5.fb]⟩
theorem AmT {x:AI} {r:LD} {s s':St} (h:vU C x r s s') {q:Nat} (hs:MQ x.op=some q) {p:Nat} (hp:p≠q) (o:C2):r.own o p=o p:=by
 rcases Agf h hs with h1|⟨b,h1⟩
 ·rw[h1]
 ·rw[h1];simp [C2.put,hp]
theorem Amx (b:Array Nat) (i j:Nat):Y2 b i j=Y2 b j i:=by unfold Y2;rw[Nat.max_comm,Nat.min_comm]
theorem tS {ops:Array Oper} {l:List AI} (h:tQ ops l=true) {i j:Nat} {x y:AI} (hx:l[i]? = some x) (hy:l[j]? = some y) (u5:i≠j) :
  (Y2 (Region.before ops) i j=true\/((∀ t,y.dst=some t->t ∉ xT x)/\(QW x.op=false\/cM y.op=false)/\(Sz x.op=true -> ∀ s,MQ y.op=some s->s∈x.c4))) /\
  (Y2 (Region.before ops) i j=true \/ ∀ s s',MQ x.op=some s->MQ y.op=some s'->s≠s'):=by
 simp only[tQ,Bool.and_eq_true]at h;have h1:=h.1.1;rw[List.all_eq_true]at h1;have Qn:(x,i)∈l.zipIdx:=List.mem_zipIdx_iff_getElem?.2 hx;have hym:(y,j)∈l.zipIdx:=List.mem_zipIdx_iff_getElem?.2 hy;have h2:=h1 (x,i) Qn;simp only at h2;rw[List.all_eq_true]at h2;have h3:=h2 (y,j) hym;simp only[Bool.and_eq_true,Bool.or_eq_true,beq_iff_eq,u5,false_or]at h3;obtain ⟨h4,h5⟩:=h3;refine ⟨?_,h5.imp id λ h5 s s' hs Dt => ?_⟩
 ·unfold AmB at h4
  simp only[Bool.or_eq_true,beq_iff_eq,u5,false_or]at h4;refine h4.imp id λ h6 => ?_
  simp only[Bool.and_eq_true,Bool.or_eq_true,Bool.not_eq_true']at h6;obtain ⟨⟨h7,h8⟩,h9⟩:=h6;refine ⟨λ t ht => ?_,h8,λ hr s hs => ?_⟩
  ·rw[ht]at h7
   simpa using h7
  ·rw[hr,hs]at h9
   simpa using h9
 ·rw[hs,Dt]at h5
  simpa using h5
structure Abg (C:Cl) (ops:Array Oper) (l:List AI) (σ:Nat->St) (rs:List LD):Prop where
 ok:tQ ops l=true
 len:rs.length=l.length
 fits : ∀ (k:Nat) (x:AI) (r:LD),l[k]? = some x->rs[k]? = some r->vU C x r (σ k) (σ (k+1))
variable {ops:Array Oper} {l:List AI} {σ:Nat->St} {rs:List LD}
theorem Ae8 {X:Nat->Bool} : ∀ (l:List LD) (k:Nat) (x:D),(∀ i,i<l.length->X (k+i)=false)->KS X l k x=x
 | [],_,_,_=>rfl
 | r::q,k,x,h=>by
  simp only[KS];rw[show X k=false by simpa using h 0 (by simp)];exact Ae8 q (k+1) _ λ i hi=>by
   have:=h (i+1) (by simpa using hi)
   rw[show k+1+i=k+(i+1) by omega];exact this
def d0 (σ:Nat->St):D:=(k7 (σ 0).tm,(σ 0).own)
theorem AeA (h:Abg C ops l σ rs) : ∀ k,k<=l.length->KS (λ j=>decide (j<k)) rs 0 (d0 σ)=(k7 (σ k).tm,(σ k).own)
 | 0,_=>Ae8 rs 0 _ λ i _=>by simp
 | k+1,hk=>by
  have Nj:k<l.length:=by omega
  have hkr:k<rs.length:=by rw[h.len];exact Nj
  have hr:rs[k]? = some rs[k]:=zE hkr;have hf:=h.fits k l[k] rs[k] (zE Nj) hr;rw[AkG (X:=λ j=>decide (j<k)) (X':=λ j=>decide (j<k+1)) hr (by simp) (λ j=>by
   by_cases h1:j=k
   ·simp [h1]
   ·simp [h1];omega) _ (λ j r' _ o5 hX=>by simp at hX;omega),AeA h k (by omega)]
  exact hf.act.symm
section
variable {X:Nat->Bool} {i:Nat} {x:AI} {r:LD}
theorem Amz (hX:vT ops X) (vb:X i=false) (ka : ∀ o,ops[i]? = some o -> ∀ e∈o.after,Region.binds .any e=true->X e.on=true) {j:Nat} (u5:i≠j) (ho:Y2 (Region.before ops) i j=true):X j=decide (j<i):=by
 rcases Nat.lt_or_gt_of_ne u5 with o5|yh
 ·have:X j=false:=by
   cases hj:X j with
   | false=>rfl
   | true=>have:=Amy hX hj o5 ho;rw[vb]at this;cases this
  rw[this];simp;omega
 ·rw[Av6 hX ka yh ho];simp;omega
theorem Asv (h:Abg C ops l σ rs) (hx:l[i]? = some x) (hr:rs[i]? = some r) (hX:vT ops X) (vb:X i=false) (ka : ∀ o,ops[i]? = some o -> ∀ e∈o.after,Region.binds .any e=true->X e.on=true) :
  eF (KS X rs 0 (d0 σ)).1 x.guard=some r.g/\(r.g=true->k6 C x.c4 (L8 (KS X rs 0 (d0 σ)).1) (KS X rs 0 (d0 σ)).2 x.op=some r.E) /\
  (if r.g then r.E.valOf (KS X rs 0 (d0 σ)).2 else .j5 [])=r.v /\
  ∀ X':Nat->Bool,(∀ j,X' j=(decide (j=i)||X j))->KS X' rs 0 (d0 σ)=r.act (KS X rs 0 (d0 σ)):=by
 have qg:i<l.length:=(zS hx).1;have hf:=h.fits i x r hx hr;have Ln:=AeA h i (by omega);generalize hT:KS X rs 0 (d0 σ)=TX;have tz : ∀ (j:Nat) (r':LD),rs[j]? = some r' -> ∃ y,l[j]? = some y/\vU C y r' (σ j) (σ (j+1)):=λ j r' hj=>by
  have my:j<l.length:=by rw[<-h.len];exact (zS hj).1
  exact ⟨l[j],zE my,h.fits j _ _ (zE my) hj⟩
 have Lj : ∀ t∈xT x,TX.1 t=k7 (σ i).tm t:=λ t ht=>by
  have:=AkI (X:=X) (Y:=λ j=>decide (j<i)) (t:=t) rs 0 (d0 σ) (d0 σ) rfl (λ j r' hj hd=>by
   simp only[Nat.zero_add];by_cases u5:i=j
   ·subst u5;simp [vb]
   ·obtain ⟨y,hy,ny⟩:=tz j r' hj
    rcases (tS h.ok hx hy u5).1 with ho|⟨h1,_⟩
    ·exact Amz hX vb ka u5 ho
    ·exact absurd ht (h1 t (by rw[<-ny.d];exact hd)))
  rw[hT,Ln]at this;exact this
 have Zf : ∀ t∈YB x.op,TX.1 t=k7 (σ i).tm t:=λ t ht=>Lj t (by simp [xT,ht])
 have mg : ∀ s,(∀ (j:Nat) (y:AI) (r':LD),i≠j->l[j]? = some y->rs[j]? = some r'->Y2 (Region.before ops) i j=true \/ ∀ o,r'.own o s=o s)->TX.2 s=(σ i).own s:=λ s hs=>by
  have:=AkH (X:=X) (Y:=λ j=>decide (j<i)) (s:=s) rs 0 (d0 σ) (d0 σ) rfl (λ j r' hj=>by
   simp only[Nat.zero_add];by_cases u5:i=j
   ·subst u5;left;simp [vb]
   ·obtain ⟨y,hy,ny⟩:=tz j r' hj
    rcases hs j y r' u5 hy hj with ho|ho
    ·exact .inl (Amz hX vb ka u5 ho)
    ·exact .inr ho)
  rw[hT,Ln]at this;exact this
 have xj : ∀ (j:Nat) (y:AI) (r':LD),l[j]? = some y->rs[j]? = some r'->cM y.op=false -> ∀ o,r'.own o=o:=λ j y r' hy hj hm o=>by
  simp only[cM,Bool.or_eq_false_iff]at hm;exact uS (h.fits j y r' hy hj) hm.1.1 (by simpa using hm.2) o
 have Yx : ∀ (j:Nat) (y:AI),i≠j->l[j]? = some y->QW y.op=true->cM x.op=true->Y2 (Region.before ops) i j=true:=λ j y u5 hy ht rf=>by
  rcases (tS h.ok hy hx (Ne.symm u5)).1 with ho|⟨_,h2,_⟩
  ·rw[Amx];exact ho
  ·rw[ht,rf]at h2;simp at h2
 have hg:eF TX.1 x.guard=some r.g:=by
  rw[<-hf.g];cases Py:x.guard with
  | none=>rfl
  | some gw =>
   obtain ⟨g,w⟩:=gw;simp only[eF];rw[Lj g (by simp [xT,Py])]
 have Lp:QW x.op=true->TX.2=(σ i).own:=λ ht=>by
  funext s
  refine mg s λ j y r' u5 hy hj => ?_
  cases hm:cM y.op with
  | false=>exact .inr λ o=>by rw[xj j y r' hy hj hm o]
  | true =>
   rcases (tS h.ok hx hy u5).1 with ho|⟨_,h2,_⟩
   ·exact .inl ho
   ·rw[ht,hm]at h2;simp at h2
 have Yu:Sz x.op=true->TX.2.w6 x.c4=(σ i).own.w6 x.c4:=λ vk=>by
  refine AuQ λ s hs=>mg s λ j y r' u5 hy hj => ?_
  have rf:cM x.op=true:=by simp [cM,vk]
  cases ht:QW y.op with
  | true=>exact .inl (Yx j y u5 hy ht rf)
  | false =>
   cases vl:MQ y.op with
   | none=>exact .inr λ o=>by rw[uS (h.fits j y r' hy hj) ht vl o]
   | some q =>
    rcases (tS h.ok hx hy u5).1 with ho|⟨_,_,h3⟩
    ·exact .inl ho
    ·exact .inr λ o=>AmT (h.fits j y r' hy hj) vl (p:=s) (λ e=>hs (by rw[e];exact h3 vk q vl)) o
 have xq : ∀ s,MQ x.op=some s->TX.2 s=(σ i).own s:=λ s Fv=>by
  have rf:cM x.op=true:=by simp [cM,Fv]
  exact mg s λ j y r' u5 hy hj=>by
   cases ht:QW y.op with
   | true=>exact .inl (Yx j y u5 hy ht rf)
   | false =>
    cases vl:MQ y.op with
    | none=>exact .inr λ o=>by rw[uS (h.fits j y r' hy hj) ht vl o]
    | some q =>
     rcases (tS h.ok hx hy u5).2 with ho|On
     ·exact .inl ho
     ·exact .inr λ o=>AmT (h.fits j y r' hy hj) vl (On s q Fv vl) o
 have AEc:r.g=true->k6 C x.c4 (L8 TX.1) TX.2 x.op=some r.E:=λ lq=>by
  rw[AsD Zf,<-hf.E lq];cases ht:QW x.op with
  | true=>rw[Lp ht]
  | false=>exact AsG _ _ ht Yu xq
 have hval:(if r.g then r.E.valOf TX.2 else .j5 [])=r.v:=by
  rw[hf.v];cases hgv:r.g with
  | false=>rfl
  | true =>
   simp only[if_true];cases Fv:MQ x.op with
   | none =>
    cases ht:QW x.op with
    | true=>rw[Lp ht]
    | false =>
     obtain ⟨v,hv⟩:=Ajp (hf.E hgv) ht Fv;rw[hv];rfl
   | some s =>
    have On:=xq s Fv;rcases Ajo (hf.E hgv) Fv with ⟨b,v,hv|hv⟩|⟨x,v,hv|hv⟩<;>rw[hv]<;>simp only[H5.valOf,C2.k9,On]
 refine ⟨hg,AEc,hval,λ X' Gw => ?_⟩;rw[<-hT];refine AkG hr vb Gw _ λ j r' hj o5 hXj z => ?_
 obtain ⟨y,hy,ny⟩:=tz j r' hj;have u5:i≠j:=by omega
 have nc : ¬ Y2 (Region.before ops) i j=true:=λ ho=>by
  have:=Amy hX hXj o5 ho
  rw[vb]at this;cases this
 obtain ⟨hp1,hp2⟩:=tS h.ok hx hy u5;obtain ⟨Lg,Qk⟩:=tS h.ok hy hx (Ne.symm u5);have hp:=hp1.resolve_left nc;have hq:=Lg.resolve_left (by rw[Amx];exact nc);unfold LD.act;refine Prod.ext ?_ ?_
 ·funext t
  simp only[aE];by_cases h1:r'.d=some t<;>by_cases h2:r.d=some t
  ·exact absurd (by rw[hf.d]at h2;simp [xT,h2]) (hp.1 t (by rw[<-ny.d];exact h1))
  ·simp [h1,h2]
  ·simp [h1,h2]
  ·simp [h1,h2]
 ·show r'.own (r.own z.2)=r.own (r'.own z.2)
  cases rf:cM x.op with
  | false=>rw[xj i x r hx hr rf,xj i x r hx hr rf]
  | true =>
   cases Ii:cM y.op with
   | false=>rw[xj j y r' hy hj Ii,xj j y r' hy hj Ii]
   | true =>
    have htx:QW x.op=false:=by
     rcases hp.2.1 with h1|h1
     ·exact h1
     ·rw[Ii]at h1;cases h1
    have hty:QW y.op=false:=by
     rcases hq.2.1 with h1|h1
     ·exact h1
     ·rw[rf]at h1;cases h1
    cases Fv:MQ x.op with
    | none=>rw[uS hf htx Fv,uS hf htx Fv]
    | some s =>
     cases vl:MQ y.op with
     | none=>rw[uS ny hty vl,uS ny hty vl]
     | some s' =>
      have On:=(hp2.resolve_left nc) s s' Fv vl;rcases Agf hf Fv with h1|⟨b,h1⟩
      ·rw[h1,h1]
      ·rcases Agf ny vl with h2|⟨b',h2⟩
       ·rw[h2,h2]
       ·rw[h1,h2,h2,h1]
        funext q
        simp only[C2.put];by_cases Yt:q=s<;>by_cases Oe:q=s'
        ·exact absurd (Yt.symm.trans Oe) On
        ·simp [Yt,On]
        ·simp [Oe,Ne.symm On]
        ·simp [Yt,Oe]
end
end
end Go.c9
