/-
  Loads, stores, make, slice expressions and the small ones.
-/
import Derived.Test.YtplhdlbnneoobaaGreatB1
import Derived.Laws.Slices
import Derived.Orders
set_option linter.unusedSimpArgs false
set_option linter.unusedVariables false
set_option linter.unnecessarySimpa false
namespace Go.b7
open Go.RowKit
section
variable {B:Nat} {S:Nat->Prop} {w0:World} {m:M}
variable {P:Program} {num:Nat->Nat} {o:Oper} {a:Act} {ρ:AP->AV}
theorem fS (t:TypeId) (agg:Bool) (n:Nat) (eg : ∀ w,(isAgg t).run P w = .ok agg w) (hn:if agg then ∃ i,P.info? t=some i/\i.size=n else n=1) (ad:Addr) (vs:List Value) (hl:vs.length=n) (w:World)
  (hc : ∀ q v,vs[q]? = some v->w.cell? (ad.add q)=some v):(Instr.loadAt t (.pointer (some ad))).run P w = .ok (if agg then .agg vs.toArray else vs.getD 0 undef) w:=by
 unfold Instr.loadAt loadVar;simp only[Instr.sureAddr,Sem.run_bind,Sem.run_pure,Result.andThen_ok,eg w];cases agg with
 | true =>
  simp only[if_true]at hn;obtain ⟨i,hi,hs⟩:=hn;have:=run_loadCells_list (P:=P) w ad vs hc
  simp [sizeOf,typeInfo,hi,hs,<-hl,this]
 | false =>
  simp only[Bool.false_eq_true,if_false]at hn ⊢;have k6:0<vs.length:=by omega
  have h0:=hc 0 vs[0] (zE k6);have sf:w.cell? ad=some vs[0]:=by simpa [Addr.add] using h0
  simp [load,Sem.run,sf,k6]
theorem rT (hm:BN B S w0 m) {s t i j n:Nat} {cs:List AV} (h:m.own.ma s t i j n=some cs) : ∃ b g arr e,m.own.get s t=some b/\(0<n->m.ν s t=some g/\m.w.heap[g]? = some (.cells arr e (0,0))) /\
  ∃ vs:List Value,vs.length=n/\CL B S m cs vs /\ ∀ q v,vs[q]? = some v->arr[i*b.a9+j+q]? = some v:=by
 unfold AH.ma at h;cases hb:m.own.get s t with
 | none=>simp [hb]at h
 | some b =>
  simp only[hb]at h;cases he:b.es[i]? with
  | none=>simp [he]at h
  | some ds =>
   simp only[he,part]at h;split at h
   ·rename_i hle
    obtain rfl:(ds.drop j).take n=cs:=by simpa using h
    obtain ⟨hz,aw⟩:=hm.c9 s t b hb;cases hν:m.ν s t with
    | none =>
     rw[hν]at aw;rw[aw]at he;simp at he
    | some g =>
     rw[hν]at aw;obtain ⟨hB,arr,e,hh,v8⟩:=aw;have u5 : ∀ q,q<n -> ∃ u,arr[i*b.a9+j+q]? = some u:=λ q hq=>by
      have k6:j+q<ds.length:=by omega
      obtain ⟨u,hu,_⟩:=v8 i ds he (j+q) ds[j+q] (zE k6);exact ⟨u,by rw[<-hu];congr 1;omega⟩
     refine ⟨b,g,arr,e,rfl,λ_=>⟨rfl,hh⟩,(arr.toList.drop (i*b.a9+j)).take n,?_,⟨?_,?_⟩,?_⟩
     ·rw[List.length_take,List.length_drop]
      rcases Nat.eq_zero_or_pos n with h0|h0
      ·omega
      ·obtain ⟨u,hu⟩:=u5 (n-1) (by omega)
       have:=(Array.getElem?_eq_some_iff.1 hu).1
       simp;omega
     ·rw[List.length_take,List.length_take,List.length_drop,List.length_drop]
      rcases Nat.eq_zero_or_pos n with h0|h0
      ·omega
      ·obtain ⟨u,hu⟩:=u5 (n-1) (by omega)
       have:=(Array.getElem?_eq_some_iff.1 hu).1
       simp;omega
     ·intro q c v hq hv
      rw[List.getElem?_take]at hq hv;split at hq
      ·rename_i Ci
       rw[if_pos Ci]at hv;rw[List.getElem?_drop]at hq hv;obtain ⟨u,hu,hc⟩:=v8 i ds he (j+q) c hq;have:some u=some v:=by
        rw[<-hu,<-hv];simp only[Array.getElem?_toList];congr 1;omega
       obtain rfl:u=v:=by simpa using this
       exact hc
      ·cases hq
     ·intro q v hv
      rw[List.getElem?_take]at hv;split at hv
      ·rw[List.getElem?_drop]at hv
       simpa using hv
      ·cases hv
   ·cases h
theorem W9 {w:World} {g p:Nat} {arr:Array Value} {e:TypeId} (h:w.heap[g]? = some (.cells arr e (0,0))):w.cell? ⟨g,p,none⟩=arr[p]? := by
 simp [World.cell?,h]
theorem Sa (hm:BN B S w0 m) (hs:CT B S m ρ a.eval) {agg:Bool} {n:Nat} {x':AP} (h:BA P num o.op (.ld agg n x')=true) {s t i j:Nat} {cs:List AV} {v:AV} (hx:ρ x' = .ptr s t i j) (hl:m.own.ma s t i j n=some cs) (hv:KL agg cs=some v) :
  CX B S w0 P o a m (.val v):=by
 obtain ⟨ty,x,k8,h1,eg,hn⟩:=pL h;obtain ⟨ad,z0,ht,hb⟩:=UY (hx ▸ hs x x' h1);obtain ⟨b,g,arr,e,m9,hg,vs,fj,n6,br⟩:=rT hm hl;obtain ⟨u6,_⟩:=YK hv n6;refine EG hm ?_ u6;simp only[execOp,k8,Sem.run_bind,z0];rw[fS ty agg n eg hn ad vs fj m.w (λ q u hq => ?_)]
 ·rfl
 ·have k6:q<vs.length:=(zS hq).1
  obtain ⟨xp,gj⟩:=hg (by omega);obtain ⟨g',bj,rfl⟩:=hb b m9;obtain rfl:g=g':=by rw[xp]at bj;simpa using bj
  rw[HI,W9 gj];exact br q u hq
theorem Rz (hm:BN B S w0 m) (hs:CT B S m ρ a.eval) {agg:Bool} {n:Nat} {x':AP} (h:BA P num o.op (.ld agg n x')=true) {cs ds:List AV} {v:AV} (hx:ρ x' = .q8 cs) (hl:part cs 0 n=some ds) (hv:KL agg ds=some v) :
  CX B S w0 P o a m (.val v):=by
 obtain ⟨ty,x,k8,h1,eg,hn⟩:=pL h;obtain ⟨b,ob,u,l,z0,hR,hc,hr⟩:=aU (hx ▸ hs x x' h1);unfold b7.part at hl;split at hl
 ·rename_i hle
  obtain rfl:(cs.drop 0).take n=ds:=by simpa using hl
  have n6:CL B S m ((cs.drop 0).take n) ((List.range n).map u):=by
   refine ⟨by simp;omega,λ q c v' hq fi => ?_⟩;simp only[List.drop_zero,List.getElem?_take]at hq;split at hq
   ·rename_i Ci
    simp [Ci]at fi;subst fi;exact .rd (hr q c hq)
   ·cases hq
  obtain ⟨u6,_⟩:=YK hv n6;refine EG hm ?_ u6;simp only[execOp,k8,Sem.run_bind,z0];rw[fS ty agg n eg hn ⟨b,ob,none⟩ ((List.range n).map u) (by simp) m.w (λ q w' hq => ?_)]
  ·rfl
  ·have Ci:q<n:=by have:=(zS hq).1;simpa using this
   simp [Ci]at hq;subst hq;rw[HI];exact hc q cs[q] (zE (by omega))
 ·cases hl
theorem gK {α:Type} (l:List α) (off:Nat) (vs:List α) (h:off+vs.length<=l.length) (q:Nat):(l.take off++vs++l.drop (off+vs.length))[q]? = if q<off then l[q]? else if q<off+vs.length then vs[q-off]? else l[q]? := by
 rw[List.append_assoc];by_cases h1:q<off
 ·rw[if_pos h1,List.getElem?_append_left (by simp;omega),List.getElem?_take,if_pos h1]
 ·rw[if_neg h1,List.getElem?_append_right (by simp;omega)]
  have e1:(l.take off).length=off:=by simp;omega
  rw[e1];by_cases h2:q<off+vs.length
  ·rw[if_pos h2,List.getElem?_append_left (by omega)]
  ·rw[if_neg h2,List.getElem?_append_right (by omega),List.getElem?_drop]
   congr 1;omega
theorem jO (hm:BN B S w0 m) {g:Nat} (hB:B<=g) (arr:Array Value):Below B w0 (m.w.setRow g arr) :=
 hm.below.trans ⟨rfl,rfl,rfl,by simp,λ k hk=>setRow_other _ _ _ _ (by omega)⟩
theorem lX (hm:BN B S w0 m) (hs:CT B S m ρ a.eval) {n:Nat} {x' v':AP} (h:BA P num o.op (.st n x' v')=true) {s t i j:Nat} {vs:List AV} {l6:AH} (hx:ρ x' = .ptr s t i j) (hv:cellsOf (ρ v')=some vs) (hn:vs.length=n) (j9:m.own.ij s t i j vs=some l6) :
  CX B S w0 P o a m (.al (.g8 []) l6):=by
 obtain ⟨ty,x,v,inf,k8,h1,h2,hi,u5⟩:=Vd h;obtain ⟨ad,z0,ht,hb⟩:=UY (hx ▸ hs x x' h1);have n6:=XJ (hs v v' h2) hv;unfold AH.ij at j9;cases m9:m.own.get s t with
 | none=>simp [m9]at j9
 | some b =>
  simp only[m9]at j9;cases he:b.es[i]? with
  | none=>simp [he]at j9
  | some cs =>
   simp only[he]at j9;split at j9
   ·rename_i hle
    obtain rfl:=Option.some.inj j9;obtain ⟨hz,aw⟩:=hm.c9 s t b m9;obtain ⟨g,hg,rfl⟩:=hb b m9;rw[hg]at aw;obtain ⟨hB,arr,e,hh,v8⟩:=aw;have Gx:cs.length=b.a9:=hz cs (zM he);have hlen:(a.eval v).cells.toList.length=vs.length:=n6.1.symm;have dw:i<b.es.length:=(zS he).1;have yd:i*b.a9+j+vs.length<=arr.size:=by
     rcases Nat.eq_zero_or_pos vs.length with h0|h0
     ·rcases Nat.eq_zero_or_pos j with Bw|Bw
      ·rw[h0,Bw]
       rcases Nat.eq_zero_or_pos i with mr|mr
       ·rw[mr];omega
       ·rcases Nat.eq_zero_or_pos b.a9 with cn|cn
        ·rw[cn];omega
        ·have La:i-1<b.es.length:=by omega
         have ch:(b.es[i-1]).length=b.a9:=hz _ (List.getElem_mem La);obtain ⟨u,hu,_⟩:=v8 (i-1) _ (zE La) (b.a9-1) _ (zE (by omega));have:=(Array.getElem?_eq_some_iff.1 hu).1
         have e1:(i-1)*b.a9+b.a9=i*b.a9:=by
          rw[<-Nat.succ_mul];congr 1;omega
         omega
      ·obtain ⟨u,hu,_⟩:=v8 i cs he (j-1) cs[j-1] (zE (by omega))
       have:=(Array.getElem?_eq_some_iff.1 hu).1
       omega
     ·obtain ⟨u,hu,_⟩:=v8 i cs he (j+vs.length-1) cs[j+vs.length-1] (zE (by omega))
      have:=(Array.getElem?_eq_some_iff.1 hu).1
      omega
    have gy:=Pb n6;have qm:=run_storeCells_at (P:=P) g (i*b.a9+j) e (a.eval v).cells.toList 0 arr m.w hh (by rw[hlen];omega) gy;generalize je:(arr.toList.take (i*b.a9+j+0)++(a.eval v).cells.toList++arr.toList.drop (i*b.a9+j+0+(a.eval v).cells.toList.length)).toArray=s9 at qm;have uk : ∀ p,s9[p]? = if p<i*b.a9+j then arr[p]? else if p<i*b.a9+j+vs.length then (a.eval v).cells.toList[p-(i*b.a9+j)]? else arr[p]? := λ p=>by
     rw[<-je];simp only[Nat.add_zero,List.getElem?_toArray];rw[gK _ _ _ (by rw[hlen];simpa using yd),hlen];simp only[Array.getElem?_toList]
    have lv:s9.size=arr.size:=by
     rw[<-je];simp [hlen];have:=hlen
     simp at this;omega
    obtain ⟨k1,k2⟩:=Agt hm s t b ⟨b.a9,b.es.set i (splice cs j vs)⟩ m9 g hg arr s9 e hh rfl (λ y hy=>by
      rcases List.mem_or_eq_of_mem_set hy with hy|hy
      ·exact hz y hy
      ·rw[hy,<-Gx];simp [splice];omega) lv
     (λ i' bg n8 q c hq=>by
      show ∃ u,s9[i'*b.a9+q]? = some u/\_;change (b.es.set i (splice cs j vs))[i']? = some bg at n8;by_cases Lb:i'=i
      ·subst Lb
       rw[List.getElem?_set_self dw]at n8;obtain rfl:splice cs j vs=bg:=by simpa using n8
       unfold splice at hq;rw[gK _ _ _ hle]at hq;rw[uk];by_cases uz:q<j
       ·rw[if_pos uz]at hq
        rw[if_pos (by omega)];exact v8 i' cs he q c hq
       ·rw[if_neg uz]at hq
        rw[if_neg (by omega)];by_cases zs:q<j+vs.length
        ·rw[if_pos zs]at hq
         rw[if_pos (by omega)];obtain ⟨u,hu,cb⟩:=S5 n6 hq;exact ⟨u,by rw[<-hu];congr 1;omega,cb⟩
        ·rw[if_neg zs]at hq
         rw[if_neg (by omega)];exact v8 i' cs he q c hq
      ·rw[List.getElem?_set_ne (by omega)]at n8
       have Ll:q<b.a9:=by
        rw[<-hz bg (zM n8)];exact (zS hq).1
       obtain ⟨u,hu,cb⟩:=v8 i' bg n8 q c hq;refine ⟨u,?_,cb⟩;rw[uk,<-hu];rcases Nat.lt_or_gt_of_ne Lb with k6|gk
       ·have:(i'+1)*b.a9<=i*b.a9:=Nat.mul_le_mul_right _ k6
        rw[Nat.succ_mul]at this;rw[if_pos (by omega)]
       ·have:(i+1)*b.a9<=i'*b.a9:=Nat.mul_le_mul_right _ gk
        rw[Nat.succ_mul]at this;rw[if_neg (by omega),if_neg (by omega)])
     (m.w.setRow g s9) (jO hm hB s9) (by simp) (λ k hk=>setRow_other _ _ _ _ hk) (setRow_heap _ _ _ _ _ _ hh)
    intro K Q hK;refine AgD (w':=m.w.setRow g s9) ?_ (hK undef ⟨m.ν,_,m.w.setRow g s9⟩ rfl k1 k2 qO);have Ip:(a.eval v).cells.size=inf.size:=by rw[u5,<-hn,<-hlen];simp
    simp only[execOp,k8,z0,Instr.storeAt,storeVar,Instr.sureAddr,Sem.run_bind,Sem.run_pure,Result.andThen_ok,sizeOf,typeInfo,run_program,hi];rw[if_neg (by simpa using Ip)];simp only[Sem.run_bind,Sem.run_pure,Result.andThen_ok,qm]
   ·cases j9
theorem Sc (hm:BN B S w0 m) (hs:CT B S m ρ a.eval) {s a9 bytes:Nat} {zero:List AV} {l' c':AP} (h:BA P num o.op (.mk s a9 bytes zero l' c')=true) {kl kc:IntKind} {l c:Int} (hl:ρ l' = .int kl l) (hc:ρ c' = .int kc c) (h0:0<=l) (iu:l<=c) (hb:c*bytes<=EZ) (Fl:c<=9223372036854775807) (hz:zero.length=a9) :
  CX B S w0 P o a m (.new s ⟨a9,List.replicate l.toNat zero⟩ (λ t => .row s t a9 0 l.toNat)):=by
 obtain ⟨ty,lx,cx,e,inf,z,k8,h1,h2,hu,hi,u5,ml,cn,fc,l9⟩:=Uy h;have el:=IM (hl ▸ hs lx l' h1);have ec:=IM (hc ▸ hs cx c' h2);have n6:CL B S m zero z.cells.toList:=TB fc;have hzs:z.cells.size=a9:=by rw[<-hz,n6.1];simp
 refine lW hm s a9 l.toNat c.toNat _ (madeCells z.cells (c.toNat*inf.size)) e (Nat.pos_of_ne_zero l9) (by omega) (by rw[size_madeCells,u5];exact Nat.le_refl _) (λ x hx=>by rw[(List.mem_replicate.1 hx).2,hz]) (λ i cs n8 j c1 hj => ?_) ?_
 ·rw[List.getElem?_replicate]at n8
  split at n8
  ·rename_i dw
   obtain rfl:zero=cs:=by simpa using n8
   obtain ⟨u,ib,cb⟩:=S5 n6 hj;refine ⟨u,?_,cb⟩;have cg:j<a9:=by rw[<-hz];exact (zS hj).1
   have k6:i*a9+j<c.toNat*inf.size:=by
    rw[u5];have h3:(i+1)*a9<=c.toNat*a9:=Nat.mul_le_mul_right _ (by omega);rw[Nat.succ_mul]at h3;omega
   have Hp:(i*a9+j)%z.cells.size=j:=by rw[hzs,Nat.add_comm,Nat.add_mul_mod_self_right,Nat.mod_eq_of_lt cg]
   have zu:z.cells[j]? = some u:=by simpa using ib
   have hjs:j<z.cells.size:=(Array.getElem?_eq_some_iff.1 zu).1;have fu:z.cells[j]=u:=(Array.getElem?_eq_some_iff.1 zu).2;simp [madeCells,k6,Hp,hjs,fu]
  ·cases n8
 ·have:=run_make (P:=P) m.w ty e inf z hu hi cn kl kc l c h0 iu (by rw[ml,Int.mul_comm];simp only[EZ]at hb;omega) Fl
  simp only[execOp,k8,el,ec,Sem.run_bind,this,Result.andThen_ok,Sem.run_pure]
theorem Rr (hm:BN B S w0 m) (hs:CT B S m ρ a.eval) {x':AP} {i:Nat} (h:BA P num o.op (.ext x' i)=true) {vs:List AV} {v:AV} (hx:ρ x' = .g8 vs) (hv:vs[i]? = some v):CX B S w0 P o a m (.val v):=by
 obtain ⟨x,k8,h1⟩:=Uu h;obtain ⟨us,z0,hl,hc⟩:=aW (hx ▸ hs x x' h1);have k6:i<us.length:=by rw[<-hl];exact (zS hv).1
 refine EG hm (u:=us[i]) ?_ (.ca (hc i v us[i] hv (zE k6)));simp [execOp,k8,z0,Instr.extract,k6]
theorem Sb (hm:BN B S w0 m) (hs:CT B S m ρ a.eval) {x':AP} (h:BA P num o.op (.len x')=true) {n:Nat} (hx:PX (ρ x')=some n):CX B S w0 P o a m (.val (.int .i64 n)):=by
 obtain ⟨x,t,e,k8,h1,hu⟩:=Ux h;have u6:=hs x x' h1;obtain ⟨ad,cap,z0⟩ : ∃ ad cap,a.eval x = .slice ad n cap:=by
  generalize ρ x'=av at *;cases av with
  | sl l es =>
   have hr:=XL u6;simp only[PX,Option.some.injEq]at hx;subst hx;generalize a.eval x=v at *;cases hr with
   | fe=>exact ⟨_,_,rfl⟩
   | sl=>exact ⟨_,_,rfl⟩
  | row s t z off len =>
   obtain ⟨ad,cap,hv,_⟩:=S8 u6;simp only[PX,Option.some.injEq]at hx;subst hx;exact ⟨ad,cap,hv⟩
  | nil =>
   simp only[PX,Option.some.injEq]at hx;subst hx;exact ⟨_,_,S7 u6⟩
  | _=>simp [PX]at hx
 refine EG hm (u := .int .i64 n) ?_ (QT _ _);simp [execOp,k8,resolve,invoke,builtin,z0,Builtin.len_,run_underlying hu,goInt]
theorem RN (hs:CT B S m ρ a.eval) : ∀ {xs:List Operand} {ys:List AP},D6 xs ys=true->xs.length=ys.length /\ ∀ (j:Nat) (x:Operand) (y:AP),xs[j]? = some x->ys[j]? = some y->CV B S m (ρ y) (a.eval x)
 | [],[],_=>⟨rfl,λ j x y h=>by simp at h⟩
 | x::r,y::l,h=>by
  simp only[D6,Bool.and_eq_true]at h;obtain ⟨ih1,iz⟩:=RN hs h.2;refine ⟨by simp [ih1],λ j x' y' hx hy => ?_⟩;cases j with
  | zero=>simp at hx hy;subst hx hy;exact hs _ _ h.1
  | succ j=>exact iz j x' y' (by simpa using hx) (by simpa using hy)
 | [],_::_,h=>by simp [D6]at h
 | _::_,[],h=>by simp [D6]at h
theorem sQ (mx:Bool) (hs:CT B S m ρ a.eval) (w:World) : ∀ (xs:List Operand) (ys:List AP) (v:AV) (u:Value) (r:AV),D6 xs ys=true->CV B S m v u->KI mx v (ys.map ρ)=some r->(∃ k n,v = .int k n) -> ∃ k n,r = .int k n /\
  ((xs.map a.eval).foldlM (if mx then Builtin.max2 else Builtin.min2) u).run P w = .ok (.int k n) w
 | [],[],v,u,r,_,hc,hm,⟨k,n,hv⟩=>by
  simp only[List.map_nil,KI,Option.some.injEq]at hm;subst hm hv;obtain rfl:=IM hc;exact ⟨k,n,rfl,by simp⟩
 | x::xr,y::yr,v,u,r,he,hc,hm,⟨k,n,hv⟩=>by
  simp only[D6,Bool.and_eq_true]at he;simp only[List.map_cons,KI]at hm;have hx:=hs x y he.1;subst hv;obtain rfl:=IM hc;cases hy:ρ y with
  | int k' n' =>
   rw[hy]at hx hm;have hxe:=IM hx;simp only[PZ]at hm;obtain ⟨k2,n2,rfl,h2⟩:=sQ mx hs w xr yr _ (.int k (if mx then (if n'>n then n' else n) else (if n'<n then n' else n))) r he.2 (QT _ _) hm ⟨_,_,rfl⟩;refine ⟨k2,n2,rfl,?_⟩;simp only[List.map_cons,List.foldlM_cons,Sem.run_bind,hxe];cases mx
   ·simpa [Builtin.min2] using h2
   ·simpa [Builtin.max2] using h2
  | _=>rw[hy]at hm;simp [PZ]at hm
 | [],_::_,_,_,_,he,_,_,_=>by simp [D6]at he
 | _::_,[],_,_,_,he,_,_,_=>by simp [D6]at he
theorem Se (hm:BN B S w0 m) (hs:CT B S m ρ a.eval) {mx:Bool} {m8:List AP} (h:BA P num o.op (.mm mx m8)=true) {v r:AV} {l:List AV} (hx:m8.map ρ=v::l) (hv:KI mx v l=some r) (hi : ∃ k n,v = .int k n):CX B S w0 P o a m (.val r):=by
 obtain ⟨xs,ts,k8,he⟩:=pM h;cases m8 with
 | nil=>simp at hx
 | cons y yr =>
  simp only[List.map_cons,List.cons.injEq]at hx;obtain ⟨rfl,rfl⟩:=hx;obtain ⟨xl⟩:=xs;cases xl with
  | nil=>simp [D6]at he
  | cons x xr =>
   simp only[D6,Bool.and_eq_true]at he;obtain ⟨k,n,rfl,o7⟩:=sQ (P:=P) mx hs m.w xr yr (ρ y) (a.eval x) r he.2 (hs x y he.1) hv hi;refine EG hm (u := .int k n) ?_ (QT _ _);cases mx
   ·simp only[execOp,k8,resolve,invoke,builtin,Builtin.min_,Sem.run_bind,Sem.run_pure,Result.andThen_ok]at o7 ⊢
    simp at o7 ⊢;rw[o7];rfl
   ·simp only[execOp,k8,resolve,invoke,builtin,Builtin.max_,Sem.run_bind,Sem.run_pure,Result.andThen_ok]at o7 ⊢
    simp at o7 ⊢;rw[o7];rfl
end
end Go.b7
namespace Go.b7
open Go.RowKit
section
variable {B:Nat} {S:Nat->Prop} {w0:World} {m:M}
variable {P:Program} {num:Nat->Nat} {o:Oper} {a:Act} {ρ:AP->AV}
def HK (ρ:AP->AV) (d:Nat):Option AP->Option Int
 | none=>some d
 | some y=>match ρ y with | .int _ n=>some n|_=>none
theorem Y2 (ty e:TypeId) (inf:TypeInfo) (hu:P.underlying ty=some (.slice e)) (hi:P.info? e=some inf) (hs:CT B S m ρ a.eval) {lo n8:Option Operand} {kg Bu:Option AP} (kb:OU lo kg=true) (Eh:OU n8 Bu=true)
  (ad:Option Addr) (len cap:Nat) (l h:Int) (hl:HK ρ 0 kg=some l) (hh:HK ρ len Bu=some h) (h0:0<=l) (hlh:l<=h) (Hj:h<=len) (iu:len<=cap) (w:World) :
  (Instr.sliceAt ty (.slice ad len cap) (lo.map a.eval) (n8.map a.eval) none).run P w = .ok (.slice (if cap=l.toNat then ad else ad.map (·.add (l.toNat*inf.size))) (h.toNat-l.toNat) (cap-l.toNat)) w:=by
 have rf : ∀ {x:Option Operand} {y:Option AP} {d:Nat} {n:Int},OU x y=true->HK ρ d y=some n->(x=none/\y=none/\n=d) \/ ∃ x' k,x=some x'/\a.eval x' = .int k n:=by
  intro x y d n og hb;cases x with
  | none=>cases y with
   | none=>simp [HK]at hb;exact .inl ⟨rfl,rfl,hb.symm⟩
   | some y=>simp [OU]at og
  | some x=>cases y with
   | none=>simp [OU]at og
   | some y =>
    simp only[OU]at og;simp only[HK]at hb;cases hy:ρ y with
    | int k q =>
     rw[hy]at hb;simp only[Option.some.injEq]at hb;subst hb;exact .inr ⟨x,k,rfl,IM (hy ▸ hs x y og)⟩
    | _=>rw[hy]at hb;cases hb
 have um:h<=(cap:Int):=by omega
 unfold Instr.sliceAt Instr.slice Instr.sliceBounds;rcases rf kb hl with ⟨rfl,_,rfl⟩|⟨x1,k1,rfl,e1⟩<;>rcases rf Eh hh with ⟨rfl,_,rfl⟩|⟨x2,k2,rfl,e2⟩
 ·simp [run_underlying hu,sizeOf,typeInfo,hi]
 ·have sz:=run_sliceBound (P:=P) w k2 h cap .sliceAcap (by omega) um
  simp [run_underlying hu,sizeOf,typeInfo,hi,e2,sz]
 ·have o9:=run_sliceBound (P:=P) w k1 l len .sliceB h0 (by omega)
  simp [run_underlying hu,sizeOf,typeInfo,hi,e1,o9]
 ·have sz:=run_sliceBound (P:=P) w k2 h cap .sliceAcap (by omega) um
  have o9:=run_sliceBound (P:=P) w k1 l h.toNat .sliceB h0 (by omega);simp [run_underlying hu,sizeOf,typeInfo,hi,e1,e2,sz,o9]
theorem Qi (hm:BN B S w0 m) (hs:CT B S m ρ a.eval) {a9:Nat} {x':AP} {kg n8:Option AP} (h:BA P num o.op (.bz a9 x' kg n8)=true) (hx:ρ x' = .nil) (hl:HK ρ 0 kg=some 0) (hh:HK ρ 0 n8=some 0):CX B S w0 P o a m (.val .nil):=by
 obtain ⟨ty,x,lo,ti,e,inf,k8,h1,h2,h3,hu,hi,u5,l9⟩:=dK h;have z0:=S7 (hx ▸ hs x x' h1);have o7:=Y2 ty e inf hu hi hs h2 h3 none 0 0 0 0 hl hh (by omega) (by omega) (by omega) (by omega) m.w;refine EG hm (u := .slice none 0 0) ?_ (.ca (.one .nil));simp only[execOp,k8,z0,Sem.run_bind,Option.map_none,o7];rfl
theorem Qj (hm:BN B S w0 m) (hs:CT B S m ρ a.eval) {a9:Nat} {x':AP} {kg n8:Option AP} (h:BA P num o.op (.bz a9 x' kg n8)=true) {s t z off len:Nat} {l u:Int} (hx:ρ x' = .row s t z off len) (hl:HK ρ 0 kg=some l) (hh:HK ρ len n8=some u) (h0:0<=l) (El:l<=u) (fu:u<=len) (hz:z=a9) :
  CX B S w0 P o a m (.val (.row s t z (off+l.toNat) (u.toNat-l.toNat))):=by
 obtain ⟨ty,x,lo,ti,e,inf,k8,h1,h2,h3,hu,hi,u5,l9⟩:=dK h;obtain ⟨ad,cap,z0,ht,cn,iu,ha,hb⟩:=S8 (hx ▸ hs x x' h1);have o7:=Y2 ty e inf hu hi hs h2 h3 ad len cap l u hl hh h0 El fu iu m.w;refine EG hm ?_ (.ca (.one (.row s t z (off+l.toNat) (u.toNat-l.toNat) (if cap=l.toNat then ad else ad.map (·.add (l.toNat*inf.size))) (cap-l.toNat) ht cn (by omega) (λ hp => ?_) λ b k7 => ?_)))
 ·simp only[execOp,k8,z0,Sem.run_bind,Option.map_none,o7]
  rfl
 ·rw[if_neg (by omega)]
  obtain ⟨yw,rfl⟩:=Option.isSome_iff_exists.1 (ha (by omega));rfl
 ·obtain ⟨mn,bk⟩:=hb b k7
  refine ⟨mn,?_⟩;rcases bk with ⟨pt,ep⟩|⟨g,arr,e',hg,gx,Eg,hle⟩
  ·exact .inl ⟨by omega,by omega⟩
  ·by_cases hc:cap=l.toNat
   ·exact .inl ⟨by omega,by omega⟩
   ·refine .inr ⟨g,arr,e',hg,?_,Eg,?_⟩
    ·rw[if_neg hc,gx,u5,hz]
     simp only[Option.map_some,HI,Nat.add_mul]
    ·rw[show off+l.toNat+(cap-l.toNat)=off+cap by omega]
     exact hle
theorem Qk (hm:BN B S w0 m) (hs:CT B S m ρ a.eval) {a9:Nat} {x':AP} {kg n8:Option AP} (h:BA P num o.op (.bz a9 x' kg n8)=true) {lt:Bool} {es:List (List AV)} {l u:Int} (hx:ρ x' = .sl lt es) (hl:HK ρ 0 kg=some l) (hh:HK ρ es.length n8=some u) (h0:0<=l) (El:l<=u) (fu:u<=es.length) (hz : ∀ e∈es,e.length=a9) :
  CX B S w0 P o a m (.val (.sl lt ((es.take u.toNat).drop l.toNat))):=by
 obtain ⟨ty,x,lo,ti,e,inf,k8,h1,h2,h3,hu,hi,u5,l9⟩:=dK h;have ix:=XL (hx ▸ hs x x' h1);generalize z0:a.eval x=v at ix;cases ix with
 | fe _ ad cap =>
  have o7:=Y2 ty e inf hu hi hs h2 h3 ad 0 cap l u hl hh h0 El (by simpa using fu) (by omega) m.w;simp only[List.length_nil]at fu;rw[show (([]:List (List AV)).take u.toNat).drop l.toNat=[] by simp];refine EG hm (u := .slice (if cap=l.toNat then ad else ad.map (·.add (l.toNat*inf.size))) 0 (cap-l.toNat)) ?_ (.ca (.one (.rd (.fe lt _ _))));simp only[execOp,k8,z0,Sem.run_bind,Option.map_none,o7];rw[show u.toNat-l.toNat=0 by omega];rfl
 | sl _ _ b ob u4 cap uu qh hp hR x7 fc hc hr =>
  have o7:=Y2 ty e inf hu hi hs h2 h3 (some ⟨b,ob,none⟩) es.length cap l u hl hh h0 El fu x7 m.w;have Db:u4=a9:=by
   cases es with
   | nil=>exact absurd rfl qh
   | cons q r=>rw[<-fc q (by simp),hz q (by simp)]
  subst Db;by_cases cn:u.toNat-l.toNat=0
  ·have:(es.take u.toNat).drop l.toNat=[]:=by
    apply List.eq_nil_of_length_eq_zero;simp;omega
   rw[this];refine EG hm (u := .slice (if cap=l.toNat then some ⟨b,ob,none⟩ else (some (⟨b,ob,none⟩:Addr)).map (·.add (l.toNat*inf.size))) 0 (cap-l.toNat)) ?_ (.ca (.one (.rd (Rd.fe lt _ _))));simp only[execOp,k8,z0,Sem.run_bind,Option.map_none,o7];rw[cn];rfl
  ·have hlen:((es.take u.toNat).drop l.toNat).length=u.toNat-l.toNat:=by simp;omega
   have m9 : ∀ i,i<u.toNat-l.toNat->((es.take u.toNat).drop l.toNat)[i]? = es[l.toNat+i]? := λ i n8=>by
    rw[List.getElem?_drop,List.getElem?_take,if_pos (by omega)]
   refine EG hm (u := .slice (some ⟨b,ob+l.toNat*u4,none⟩) ((es.take u.toNat).drop l.toNat).length (cap-l.toNat)) ?_ (.ca (.one (.rd (.sl lt _ b (ob+l.toNat*u4) u4 (cap-l.toNat) (λ i j=>uu (l.toNat+i) j) (λ e=>cn (by rw[<-hlen,e];rfl)) hp hR (by rw[hlen];omega) (λ q hq=>fc q (List.mem_of_mem_take (List.mem_of_mem_drop hq))) (λ i q n8 j c hj => ?_) (λ i q n8 j c hj => ?_)))))
   ·simp only[execOp,k8,z0,Sem.run_bind,Option.map_none,o7]
    rw[if_neg (by omega),hlen,u5];simp only[Option.map_some,HI];rfl
   ·have dw:i<u.toNat-l.toNat:=by rw[<-hlen];exact (zS n8).1
    rw[m9 i dw]at n8;rw[show ob+l.toNat*u4+(i*u4+j)=ob+((l.toNat+i)*u4+j) by rw[Nat.add_mul];omega];exact hc _ q n8 j c hj
   ·have dw:i<u.toNat-l.toNat:=by rw[<-hlen];exact (zS n8).1
    rw[m9 i dw]at n8;exact hr _ q n8 j c hj
structure UH (B:Nat) (S:Nat->Prop) (m:M) (a9:Nat) (ys:List (List AV)) (ad:Option Addr) (news:List Value):Prop where
 len:news.length=ys.length*a9
 cells : ∀ b,ad=some b -> ∀ j v,news[j]? = some v->m.w.cell? (b.add j)=some v
 some_:ys≠[]->ad.isSome=true
 rel : ∀ i cs,ys[i]? = some cs -> ∀ j c,cs[j]? = some c -> ∃ u,news[i*a9+j]? = some u/\CC B S m c u
theorem Nb (a9 i j:Nat) (h:j<a9):(i*a9+j)/a9=i/\(i*a9+j)%a9=j:=by
 constructor
 ·rw[Nat.add_comm,Nat.add_mul_div_right _ _ (by omega),Nat.div_eq_of_lt h,Nat.zero_add]
 ·rw[Nat.add_comm,Nat.add_mul_mod_self_right,Nat.mod_eq_of_lt h]
theorem bV (hm:BN B S w0 m) {av:AV} {v:Value} (hc:CV B S m av v) {ys:List (List AV)} (he:EH m.own av=some ys) {a9:Nat} (hz : ∀ e∈ys,e.length=a9) (h0:0<a9) :
  ∃ ad cap news,v = .slice ad ys.length cap/\UH B S m a9 ys ad news:=by
 cases av with
 | sl l es =>
  simp only[EH,Option.some.injEq]at he;subst he;cases XL hc with
  | fe _ ad cap=>exact ⟨ad,cap,[],rfl,by simp,λ b _ j v hv=>by simp at hv,λ h=>absurd rfl h,λ i cs hi=>by simp at hi⟩
  | sl _ _ b ob u4 cap uu qh hp hR x7 fc n6 hr =>
   have Db:u4=a9:=by
    cases es with
    | nil=>exact absurd rfl qh
    | cons q r=>rw[<-fc q (by simp),hz q (by simp)]
   subst Db;refine ⟨some ⟨b,ob,none⟩,cap,(List.range (es.length*u4)).map (λ k=>uu (k/u4) (k%u4)),rfl,by simp,λ b' k7 j v hv => ?_,λ_=>rfl,λ i cs hi j c hj => ?_⟩
   ·obtain rfl:(⟨b,ob,none⟩:Addr)=b':=by simpa using k7
    rw[List.getElem?_map]at hv;have cg:j<es.length*u4:=by
     rcases Nat.lt_or_ge j (es.length*u4) with h|h
     ·exact h
     ·rw[List.getElem?_eq_none (by simpa using h)]at hv;cases hv
    rw[List.getElem?_range cg]at hv;simp only[Option.map_some,Option.some.injEq]at hv;subst hv;have hd:j/u4<es.length:=Nat.div_lt_of_lt_mul (by rw[Nat.mul_comm];exact cg);have zp:j%u4<u4:=Nat.mod_lt _ h0;have bh:(es[j/u4]).length=u4:=fc _ (List.getElem_mem hd);have:=n6 (j/u4) _ (zE hd) (j%u4) _ (zE (by rw[bh];exact zp))
    rw[HI,<-this];congr 2;have:=Nat.div_add_mod j u4
    rw[Nat.mul_comm]at this;omega
   ·have cg:j<u4:=by rw[<-fc cs (zM hi)];exact (zS hj).1
    have dw:i<es.length:=(zS hi).1;have k6:i*u4+j<es.length*u4:=by
     have:(i+1)*u4<=es.length*u4:=Nat.mul_le_mul_right _ dw
     rw[Nat.succ_mul]at this;omega
    obtain ⟨e1,e2⟩:=Nb u4 i j cg;refine ⟨uu i j,?_,.rd (hr i cs hi j c hj)⟩;rw[List.getElem?_map,List.getElem?_range k6];simp [e1,e2]
 | nil =>
  simp only[EH,Option.some.injEq]at he;subst he;exact ⟨none,0,[],S7 hc,by simp,λ b hb=>(by cases hb),λ h=>absurd rfl h,λ i cs hi=>by simp at hi⟩
 | row s t z off len =>
  obtain ⟨ad,cap,hv,ht,cn,iu,ha,hb⟩:=S8 hc;simp only[EH]at he;cases m9:m.own.get s t with
  | none=>simp [m9]at he
  | some b =>
   simp only[m9]at he;split at he
   ·rename_i hle
    obtain ⟨hle,mn⟩:=hle;obtain rfl:=Option.some.inj he;have Lz:((b.es.drop off).take len).length=len:=by simp;omega
    obtain ⟨_,bk⟩:=hb b m9;by_cases pt:len=0
    ·subst pt
     refine ⟨ad,cap,[],by simpa using hv,by simp,λ b _ j v hv=>by simp at hv,λ h=>absurd (by simp) h,λ i cs hi=>by simp at hi⟩
    ·rcases bk with ⟨h1,_⟩|⟨g,arr,e',hg,gx,Eg,AiR⟩
     ·exact absurd h1 pt
     ·obtain ⟨fc,aw⟩:=hm.c9 s t b m9
      rw[hg]at aw;obtain ⟨hB,om,e2,uv,v8⟩:=aw;rw[Eg]at uv;obtain ⟨rfl,rfl⟩:arr=om/\e'=e2:=by simpa using uv
      have hez:a9=z:=by
       have k6:off<b.es.length:=by omega
       have h1:b.es[off]∈(b.es.drop off).take len:=by
        have:((b.es.drop off).take len)[0]? = some b.es[off]:=by
         rw[List.getElem?_take,if_pos (by omega),List.getElem?_drop];simp [k6]
        exact zM this
       rw[<-hz _ h1,fc _ (List.getElem_mem k6),mn]
      subst hez;have u5:off*a9+len*a9<=arr.size:=by
       have:(off+len)*a9<=(off+cap)*a9:=Nat.mul_le_mul_right _ (by omega)
       rw[Nat.add_mul]at this;omega
      refine ⟨ad,cap,(arr.toList.drop (off*a9)).take (len*a9),by rw[Lz];exact hv,by rw[Lz];simp;omega,λ b' k7 j v fi => ?_,λ_=>by rw[gx];rfl,λ i cs hi j c hj => ?_⟩
      ·rw[gx]at k7
       obtain rfl:(⟨g,off*a9,none⟩:Addr)=b':=by simpa using k7
       rw[List.getElem?_take]at fi;split at fi
       ·rw[List.getElem?_drop]at fi
        rw[HI,W9 Eg];simpa using fi
       ·cases fi
      ·rw[List.getElem?_take]at hi
       split at hi
       ·rename_i dw
        rw[List.getElem?_drop]at hi;have cg:j<a9:=by rw[<-mn,<-fc cs (zM hi)];exact (zS hj).1
        obtain ⟨u,hu,cb⟩:=v8 (off+i) cs hi j c hj;refine ⟨u,?_,cb⟩;have k6:i*a9+j<len*a9:=by
         have:(i+1)*a9<=len*a9:=Nat.mul_le_mul_right _ dw
         rw[Nat.succ_mul]at this;omega
        rw[List.getElem?_take,if_pos k6,List.getElem?_drop,<-hu,mn];simp only[Array.getElem?_toList];congr 1;rw[Nat.add_mul];omega
       ·cases hi
   ·cases he
 | x9 v' =>
  cases v' with
  | bool b =>
   simp only[EH,Option.some.injEq]at he;subst he;obtain ⟨ad,cap,hv,_⟩:=kX hc;exact ⟨ad,cap,[],hv,by simp,λ b' k7 j v fi=>by simp at fi,λ h=>absurd rfl h,λ i cs hi=>by simp at hi⟩
  | _=>simp [EH]at he
 | _=>simp [EH]at he
theorem UH.one {a9:Nat} {ys:List (List AV)} {ad:Option Addr} {news:List Value} (h:UH B S m a9 ys ad news) (h0:0<a9) (hz : ∀ e∈ys,e.length=a9) : ∀ u∈news,u.oneCell'=true:=by
 intro u hu;obtain ⟨k,hk,rfl⟩:=List.getElem_of_mem hu;rw[h.len]at hk;have hd:k/a9<ys.length:=Nat.div_lt_of_lt_mul (by rw[Nat.mul_comm];exact hk);have zp:k%a9<a9:=Nat.mod_lt _ h0;have bh:(ys[k/a9]).length=a9:=hz _ (List.getElem_mem hd);obtain ⟨u',ib,hc⟩:=h.rel (k/a9) _ (zE hd) (k%a9) _ (zE (by rw[bh];exact zp));have fg:k/a9*a9+k%a9=k:=by
  have:=Nat.div_add_mod k a9
  rw[Nat.mul_comm]at this;exact this
 rw[fg]at ib;obtain rfl:news[k]=u':=by
  have:=(zS ib).2
  exact this
 exact hc.one
theorem UH.src {a9:Nat} {ys:List (List AV)} {ad:Option Addr} {news:List Value} (h:UH B S m a9 ys ad news) (h0:0<a9) (hz : ∀ e∈ys,e.length=a9) {t e:TypeId} (hu:P.underlying t=some (.slice e)) (cap:Nat):Src P a9 t (.slice ad ys.length cap) ys.length news m.w:=by
 cases ad with
 | none =>
  have tu:ys=[]:=by
   cases ys with
   | nil=>rfl
   | cons y r=>exact absurd (h.some_ (by simp)) (by simp)
  subst tu;have hn:news=[]:=List.eq_nil_of_length_eq_zero (by simpa using h.len);subst hn;exact Src.ofNil m.w hu cap
 | some b=>exact Src.ofSlice m.w hu b ys.length cap news h.len (h.cells b rfl) (h.one h0 hz)
theorem Yd (arr:Array Value) (off:Nat) (news:List Value) (h:off+news.length<=arr.size) (p:Nat):(arr.toList.take off++news++arr.toList.drop (off+news.length)).toArray[p]? = if p<off then arr[p]? else if p<off+news.length then news[p-off]? else arr[p]? := by
 simp only[List.getElem?_toArray];rw[gK _ _ _ (by simpa using h)];simp only[Array.getElem?_toList]
theorem Afu (t tx e ex:TypeId) (i:TypeInfo) (ht:P.underlying t=some (.slice e)) (hx:P.underlying tx=some (.slice ex)) (hi:P.info? e=some i) (g off mb nv:Nat) (x:Value) (n:Nat) (news:List Value) (w:World) (hs:Src P i.size tx x n news w) (jn:mb+n<=nv) (arr:Array Value) (e':TypeId)
  (hh:w.heap[g]? = some (.cells arr e' (0,0))) (u5:off+mb*i.size+news.length<=arr.size) (ty:TypeId) :
  (Builtin.append_ #[t,tx] ty #[.slice (some ⟨g,off,none⟩) mb nv,x]).run P w = .ok (.slice (some ⟨g,off,none⟩) (mb+n) nv) (w.setRow g (arr.toList.take (off+mb*i.size)++news++arr.toList.drop (off+mb*i.size+news.length)).toArray):=by
 have j9:=run_storeCells_at (P:=P) g (off+mb*i.size) e' news 0 arr w hh (by omega) hs.one;simp only[Nat.add_zero]at j9;simp [Builtin.append_,run_underlying ht,run_underlying hx,sizeOf,typeInfo,hi,hs.len,jn,hs.cells,HI,j9]
theorem sN (t tx e ex:TypeId) (i:TypeInfo) (ht:P.underlying t=some (.slice e)) (hx:P.underlying tx=some (.slice ex)) (hi:P.info? e=some i) (ad:Option Addr) (nv:Nat) (x:Value) (w:World) (hs:Src P i.size tx x 0 [] w) (ty:TypeId) :
  (Builtin.append_ #[t,tx] ty #[.slice ad 0 nv,x]).run P w = .ok (.slice ad 0 nv) w:=by
 have hc:=hs.cells;cases ad<;>simp [Builtin.append_,run_underlying ht,run_underlying hx,sizeOf,typeInfo,hi,hs.len,hc,storeCells]
theorem V8 {x y:Operand} {t tx:TypeId} (k8:o.op = .call ⟨.builtin .append,#[x,y],#[t,tx]⟩) {u:Value} {w w':World} (h:(Builtin.append_ #[t,tx] o.type #[a.eval x,a.eval y]).run P w = .ok u w'):(execOp a.eval o).run P w = .ok (.value u) w':=by
 simp [execOp,k8,resolve,invoke,builtin,h]
theorem Wq (ak news:List Value) (z:Array Value) (k p:Nat) (h:p<ak.length+news.length):((ak++news).toArray++Builtin.zeroCells z k)[p]? = (ak++news)[p]? := by
 rw[Array.getElem?_append_left (by simpa using h)];simp
theorem Afo {a9 len:Nat} {xs ys:List (List AV)} {ak news:List Value} (Iz:xs.length=len) (Hu:ak.length=len*a9) (hzx : ∀ e∈xs,e.length=a9)
  (hx : ∀ i cs,xs[i]? = some cs -> ∀ j c,cs[j]? = some c -> ∃ u,ak[i*a9+j]? = some u/\CC B S m c u)
  (hy : ∀ i cs,ys[i]? = some cs -> ∀ j c,cs[j]? = some c -> ∃ u,news[i*a9+j]? = some u/\CC B S m c u) :
  ∀ i cs,(xs++ys)[i]? = some cs -> ∀ j c,cs[j]? = some c -> ∃ u,(ak++news)[i*a9+j]? = some u/\CC B S m c u:=by
 intro i cs hi j c hj;by_cases dw:i<len
 ·rw[List.getElem?_append_left (by omega)]at hi
  obtain ⟨u,hu,hc⟩:=hx i cs hi j c hj;exact ⟨u,by rw[List.getElem?_append_left (by have:=(zS hu).1;omega)];exact hu,hc⟩
 ·rw[List.getElem?_append_right (by omega),Iz]at hi
  obtain ⟨u,hu,hc⟩:=hy (i-len) cs hi j c hj;refine ⟨u,?_,hc⟩;have e1:i*a9=len*a9+(i-len)*a9:=by rw[<-Nat.add_mul];congr 1;omega
  rw[List.getElem?_append_right (by omega),<-hu];congr 1;omega
theorem qV {s z n cap:Nat} {es:List (List AV)} {w':World} {g t:Nat} {arr:Array Value} {e:TypeId} (hz:0<z) (hn:n<=cap) (hg:w'.heap[g]? = some (.cells arr e (0,0))) (hc:cap*z<=arr.size) :
  CV B S ⟨g9 m s (some g),m.own.put s (((m.own s).n9 t none).new ⟨z,es⟩),w'⟩ (.row s (m.own.g7 s) z 0 n) (.slice (some ⟨g,0,none⟩) n cap):=by
 refine .ca (.one (.row s (m.own.g7 s) z 0 n _ cap ?_ hz hn (λ_=>rfl) λ b' k7=>⟨?_,.inr ⟨g,arr,e,?_,by simp,hg,by simpa using hc⟩⟩))
 ·show _<AH.g7 _ s
  rw[XF];simp
 ·change AH.get _ s _=some b' at k7
  rw[RT,if_pos ⟨rfl,rfl⟩]at k7;obtain rfl:(⟨z,es⟩:DY)=b':=by simpa using k7
  rfl
 ·simp [g9]
theorem zR (hm:BN B S w0 m) (ob:Obj):Below B w0 (m.w.drew.alloc ob):=hm.below.drew.alloc (by simpa using hm.size) ob
theorem Nk (hm:BN B S w0 m) (hs:CT B S m ρ a.eval) {s a9 bytes:Nat} {x' y':AP} (h:BA P num o.op (.app s a9 bytes x' y')=true) {ys:List (List AV)} (hy:EH m.own (ρ y')=some ys) (hz : ∀ e∈ys,e.length=a9) {s' t len:Nat} {b:DY} (hx:ρ x' = .row s' t a9 0 len) (m9:m.own.get s' t=some b)
  (mn:b.a9=a9) (hle:len<=b.es.length) (jn:(len+ys.length)*bytes<=EZ) (Fl:len+ys.length<=9223372036854775807) :
  CX B S w0 P o a m (.al (.row s' (m.own.g7 s') a9 0 (len+ys.length)) (m.own.put s' (((m.own s').n9 t none).new ⟨a9,b.es.take len++ys⟩))):=by
 obtain ⟨x,y,ty,e,i,z,tx,ex,k8,h1,h2,hu,hi,u5,ml,cn,fc,l9,zw⟩:=pJ h;have h0:0<a9:=Nat.pos_of_ne_zero l9;obtain ⟨ad,cap,z0,ht,_,iu,ha,hb⟩:=S8 (hx ▸ hs x x' h1);obtain ⟨vo,fx,news,rp,bh⟩:=bV hm (hs y y' h2) hy hz h0;have fp:Src P i.size tx (.slice vo ys.length fx) ys.length news m.w:=by rw[u5];exact bh.src h0 hz zw fx
 obtain ⟨Dz,aw⟩:=hm.c9 s' t b m9;obtain ⟨_,bk⟩:=hb b m9;have ft:(b.es.take len).length=len:=by simp;omega
 have vk : ∀ q∈b.es.take len++ys,q.length=a9:=λ q hq=>by
  rcases List.mem_append.1 hq with hq|hq
  ·rw[<-mn];exact Dz q (List.mem_of_mem_take hq)
  ·exact hz q hq
 intro K Q hK;by_cases te:len+ys.length<=cap
 ·rcases bk with ⟨pt,ep⟩|⟨g,arr,e',hg,gx,hh,Gy⟩
  ·have tu:ys=[]:=List.eq_nil_of_length_eq_zero (by omega)
   subst tu;subst pt ep;have nx:news=[]:=List.eq_nil_of_length_eq_zero (by simpa using bh.len);subst nx;have o7:=sN ty tx e ex i hu zw hi ad 0 (.slice vo 0 fx) m.w (by simpa using fp) o.type;obtain ⟨k1,k2⟩:=eA hm s' t b ⟨a9,b.es.take 0++[]⟩ m9 none m.w hm.below (Nat.le_refl _) (λ_ _ _=>rfl) (by simp) (by simp) (by simp);refine P6 (V8 k8 (by rw[z0,rp];simpa using o7)) (hK _ ⟨g9 m s' none,m.own.put s' (((m.own s').n9 t none).new ⟨a9,b.es.take 0++[]⟩),m.w⟩ rfl k1 k2 (.ca (.one (.row s' (m.own.g7 s') a9 0 0 ad 0 ?_ h0 (Nat.le_refl _) (λ h=>by omega) λ b' k7=>⟨?_,.inl ⟨rfl,rfl⟩⟩))))
   ·show _<AH.g7 _ s'
    rw[XF];simp
   ·change AH.get _ s' _=some b' at k7
    rw[RT,if_pos ⟨rfl,rfl⟩]at k7;obtain rfl:(⟨a9,b.es.take 0++[]⟩:DY)=b':=by simpa using k7
    rfl
  ·have wx:ad=some ⟨g,0,none⟩:=by simpa using gx
   rw[hg]at aw;obtain ⟨hB,om,e2,uv,v8⟩:=aw;rw[hh]at uv;obtain ⟨rfl,rfl⟩:arr=om/\e'=e2:=by simpa using uv
   have ke:news.length=ys.length*a9:=bh.len;have hbound:len*a9+news.length<=arr.size:=by
    have:(len+ys.length)*a9<=(0+cap)*a9:=Nat.mul_le_mul_right _ (by omega)
    rw[Nat.add_mul]at this;omega
   have o7:=Afu ty tx e ex i hu zw hi g 0 len cap (.slice vo ys.length fx) ys.length news m.w fp te arr e' hh (by rw[u5];omega) o.type;rw[u5,Nat.zero_add]at o7;generalize je:(arr.toList.take (len*a9)++news++arr.toList.drop (len*a9+news.length)).toArray=s9 at o7;have bj : ∀ p,s9[p]? = if p<len*a9 then arr[p]? else if p<len*a9+news.length then news[p-len*a9]? else arr[p]? := λ p=>by rw[<-je];exact Yd arr (len*a9) news hbound p
   have lv:s9.size=arr.size:=by rw[<-je];simp;omega
   obtain ⟨k1,k2⟩:=eA hm s' t b ⟨a9,b.es.take len++ys⟩ m9 (some g) (m.w.setRow g s9) (jO hm hB s9) (by simp) (λ k _ qh=>setRow_other _ _ _ _ (λ e=>qh (e ▸ hg))) vk (by simp) (λ g' gj=>by
    obtain rfl:g=g':=by simpa using gj
    refine ⟨hB,.inr hg,s9,e',setRow_heap _ _ _ _ _ _ hh,λ i' cs n8 j c hj => ?_⟩;show ∃ u,s9[i'*a9+j]? = some u/\_;by_cases dw:i'<len
    ·rw[List.getElem?_append_left (by omega),List.getElem?_take,if_pos dw]at n8
     have cg:j<a9:=by rw[<-mn,<-Dz cs (zM n8)];exact (zS hj).1
     obtain ⟨u,ib,cb⟩:=v8 i' cs n8 j c hj;refine ⟨u,?_,cb⟩;have:(i'+1)*a9<=len*a9:=Nat.mul_le_mul_right _ dw
     rw[Nat.succ_mul]at this;rw[bj,if_pos (by omega),<-ib,mn]
    ·rw[List.getElem?_append_right (by omega),ft]at n8
     obtain ⟨u,ib,cb⟩:=bh.rel (i'-len) cs n8 j c hj;refine ⟨u,?_,cb⟩;have fu:=(zS ib).1;have e1:i'*a9=len*a9+(i'-len)*a9:=by rw[<-Nat.add_mul];congr 1;omega
     rw[bj,if_neg (by omega),if_pos (by omega),<-ib];congr 1;omega)
   exact P6 (V8 k8 (by rw[z0,rp,wx];exact o7)) (hK _ ⟨g9 m s' (some g),m.own.put s' (((m.own s').n9 t none).new ⟨a9,b.es.take len++ys⟩),m.w.setRow g s9⟩ rfl k1 k2 (qV h0 te (setRow_heap _ _ _ _ _ _ hh) (by rw[lv];simpa using Gy)))
 ·have ur:cap<len+ys.length:=by omega
  obtain ⟨ak,Hu,hold,Ib⟩ : ∃ ak:List Value,ak.length=len*a9/\(Builtin.firstCells i.size len (.slice ad len cap)).run P m.w.drew = .ok ak.toArray m.w.drew/\(∀ i' cs,(b.es.take len)[i']? = some cs -> ∀ j c,cs[j]? = some c -> ∃ u,ak[i'*a9+j]? = some u/\CC B S m c u):=by
   rcases bk with ⟨pt,ep⟩|⟨g,arr,e',hg,gx,hh,Gy⟩
   ·subst pt
    refine ⟨[],by simp,?_,λ i' cs n8=>by simp at n8⟩;cases ad with
    | none=>exact run_firstCells_none m.w.drew i.size 0 0 cap
    | some yw=>exact run_firstCells_some m.w.drew i.size 0 yw 0 cap [] (by simp) (λ j v hv=>by simp at hv)
   ·have wx:ad=some ⟨g,0,none⟩:=by simpa using gx
    rw[hg]at aw;obtain ⟨hB,om,e2,uv,v8⟩:=aw;rw[hh]at uv;obtain ⟨rfl,rfl⟩:arr=om/\e'=e2:=by simpa using uv
    have n6:len*a9<=arr.size:=by
     have:len*a9<=(0+cap)*a9:=Nat.mul_le_mul_right _ (by omega)
     omega
    refine ⟨arr.toList.take (len*a9),by simp;omega,?_,λ i' cs n8 j c hj => ?_⟩
    ·rw[wx]
     refine run_firstCells_some m.w.drew i.size len ⟨g,0,none⟩ len cap _ (by rw[u5];simp;omega) (λ j v hv => ?_);rw[List.getElem?_take]at hv;split at hv
     ·rw[HI,W9 (w:=m.w.drew) (show m.w.heap[g]? = _ from hh)]
      simpa using hv
     ·cases hv
    ·rw[List.getElem?_take]at n8
     split at n8
     ·rename_i dw
      have cg:j<a9:=by rw[<-mn,<-Dz cs (zM n8)];exact (zS hj).1
      obtain ⟨u,ib,cb⟩:=v8 i' cs n8 j c hj;refine ⟨u,?_,cb⟩;have:(i'+1)*a9<=len*a9:=Nat.mul_le_mul_right _ dw
      rw[Nat.succ_mul]at this;rw[List.getElem?_take,if_pos (by omega),<-ib,mn];simp
     ·cases n8
  have o7:=run_append_grow_src (P:=P) m.w ty tx o.type e i z hu hi cn ad len cap ak hold (.slice vo ys.length fx) ys.length news fp ur (by omega) (growslice_fits ur (by rw[ml];exact jn));have ke:news.length=ys.length*a9:=bh.len;have x7:len+ys.length<=grownCap m.w (len+ys.length) cap e:=grownCap_ge _ _ _ _;generalize Ee:grownCap m.w (len+ys.length) cap e=gc at o7 x7;have eo:=zR hm (.cells ((ak++news).toArray++Builtin.zeroCells z.cells (gc-(len+ys.length))) e);have ew:(m.w.drew.alloc (.cells ((ak++news).toArray++Builtin.zeroCells z.cells (gc-(len+ys.length))) e)).heap[m.w.heap.size]? = some (.cells ((ak++news).toArray++Builtin.zeroCells z.cells (gc-(len+ys.length))) e (0,0)):=heap_alloc_new m.w.drew _;obtain ⟨k1,k2⟩:=eA hm s' t b ⟨a9,b.es.take len++ys⟩ m9 (some m.w.heap.size) _ eo (by simp) (λ k hk _=>Below.heap_alloc m.w.drew _ k hk) vk (by simp) (λ g' gj=>by
   obtain rfl:m.w.heap.size=g':=by simpa using gj
   refine ⟨hm.size,.inl (Nat.le_refl _),_,e,ew,λ i' cs n8 j c hj => ?_⟩;obtain ⟨u,ib,cb⟩:=Afo ft Hu (λ q hq=>by rw[<-mn];exact Dz q (List.mem_of_mem_take hq)) Ib bh.rel i' cs n8 j c hj;refine ⟨u,?_,cb⟩;rw[Wq _ _ _ _ _ (by have:=(zS ib).1;simpa using this)];exact ib)
  refine P6 (V8 k8 (by rw[z0,rp];exact o7)) (hK _ ⟨g9 m s' (some m.w.heap.size),m.own.put s' (((m.own s').n9 t none).new ⟨a9,b.es.take len++ys⟩),_⟩ rfl k1 k2 (qV h0 x7 ew ?_));have ua:(Builtin.zeroCells z.cells (gc-(len+ys.length))).size=(gc-(len+ys.length))*a9:=by simp [Builtin.zeroCells,fc]
  rw[Array.size_append,ua];simp only[List.size_toArray,List.length_append,Hu,ke];rw[<-Nat.add_mul,<-Nat.add_mul];exact Nat.mul_le_mul_right _ (by omega)
theorem Nj (hm:BN B S w0 m) (hs:CT B S m ρ a.eval) {s a9 bytes:Nat} {x' y':AP} (h:BA P num o.op (.app s a9 bytes x' y')=true) {ys:List (List AV)} (hy:EH m.own (ρ y')=some ys) (hz : ∀ e∈ys,e.length=a9) (hx:ρ x' = .nil)
  (jn:ys.length*bytes<=EZ) (Fl:ys.length<=9223372036854775807) :
  CX B S w0 P o a m (.al (.row s (m.own.g7 s) a9 0 ys.length) (m.own.put s ((m.own s).new ⟨a9,ys⟩))):=by
 obtain ⟨x,y,ty,e,i,z,tx,ex,k8,h1,h2,hu,hi,u5,ml,cn,fc,l9,zw⟩:=pJ h;have h0:0<a9:=Nat.pos_of_ne_zero l9;have z0:=S7 (hx ▸ hs x x' h1);obtain ⟨vo,fx,news,rp,bh⟩:=bV hm (hs y y' h2) hy hz h0;have fp:Src P i.size tx (.slice vo ys.length fx) ys.length news m.w:=by rw[u5];exact bh.src h0 hz zw fx
 intro K Q hK;by_cases tu:ys=[]
 ·subst tu
  have nx:news=[]:=List.eq_nil_of_length_eq_zero (by simpa using bh.len);subst nx;have o7:=sN ty tx e ex i hu zw hi none 0 (.slice vo 0 fx) m.w (by simpa using fp) o.type;obtain ⟨k1,k2⟩:=uZ hm s a9;refine P6 (V8 k8 (by rw[z0,rp];simpa using o7)) (hK _ ⟨g9 m s none,m.own.put s ((m.own s).new ⟨a9,[]⟩),m.w⟩ rfl k1 k2 (.ca (.one (.row s (m.own.g7 s) a9 0 0 none 0 ?_ h0 (Nat.le_refl _) (λ h=>by omega) λ b' k7=>⟨?_,.inl ⟨rfl,rfl⟩⟩))))
  ·show _<AH.g7 _ s
   rw[KX];simp
  ·change AH.get _ s _=some b' at k7
   rw[GE,if_pos ⟨rfl,rfl⟩]at k7;obtain rfl:(⟨a9,[]⟩:DY)=b':=by simpa using k7
   rfl
 ·have Hw:0<ys.length:=List.length_pos_iff.2 tu
  have o7:=run_append_grow_src (P:=P) m.w ty tx o.type e i z hu hi cn none 0 0 [] (run_firstCells_none m.w.drew i.size 0 0 0) (.slice vo ys.length fx) ys.length news fp (by omega) (by omega) (growslice_fits (by omega) (by rw[ml,Nat.zero_add];exact jn));simp only[Nat.zero_add,List.nil_append]at o7;have ke:news.length=ys.length*a9:=bh.len;have x7:ys.length<=grownCap m.w ys.length 0 e:=grownCap_ge _ _ _ _;generalize Ee:grownCap m.w ys.length 0 e=gc at o7 x7;have hd:Below m.w.heap.size m.w m.w.drew:=(Below.refl _ _).drew;obtain ⟨iw,Bq⟩:=grow hm hd;obtain ⟨k1,k2⟩:=aE iw s ⟨a9,ys⟩ (news.toArray++Builtin.zeroCells z.cells (gc-ys.length)) e hz (λ i' cs n8 j c hj=>by
   obtain ⟨u,ib,cb⟩:=bh.rel i' cs n8 j c hj;refine ⟨u,?_,Bq.cc cb⟩;have fu:=(zS ib).1;show (news.toArray++Builtin.zeroCells z.cells (gc-ys.length))[i'*a9+j]? = some u;rw[Array.getElem?_append_left (by simpa using fu)];simpa using ib)
  have ua:(Builtin.zeroCells z.cells (gc-ys.length)).size=(gc-ys.length)*a9:=by simp [Builtin.zeroCells,fc]
  refine P6 (V8 k8 (by rw[z0,rp];exact o7)) (hK _ ⟨g9 ⟨m.ν,m.own,m.w.drew⟩ s (some m.w.drew.heap.size),m.own.put s ((m.own s).new ⟨a9,ys⟩),_⟩ rfl k1 (Bq.trans k2) (rC (m:=⟨m.ν,m.own,m.w.drew⟩) h0 x7 (heap_alloc_new m.w.drew _) ?_));rw[Array.size_append,ua];simp only[List.size_toArray,ke];rw[<-Nat.add_mul];exact Nat.mul_le_mul_right _ (by omega)
end
end Go.b7

namespace Go.b7
open Go.RowKit
section
variable {B:Nat} {S:Nat->Prop} {w0:World} {m:M}
variable {P:Program} {num:Nat->Nat} {o:Oper} {a:Act} {ρ:AP->AV}
structure G6 (P:Program) (num:Nat->Nat) (C:Cl):Prop where
 ot : ∀ (f:Nat) (vs:List AV) (r:AV),C.pure f vs=some r -> ∀ (us:Array Value) (w:World),(callFunc (num f) us).run P w = .ok (.enter (num f) us) w
 kn : ∀ (f:Nat) (vs:List AV) (own:AH) (r:AV × AH),C.dm f vs own=some r -> ∀ (us:Array Value) (w:World),(callFunc (num f) us).run P w = .ok (.enter (num f) us) w
 pure : ∀ (f:Nat) (vs:List AV) (r:AV),C.pure f vs=some r -> ∀ (S:Nat->Prop) (w:World) (us:List Value),vs.length=us.length->(∀ (j:Nat) (c:AV) (v:Value),vs[j]? = some c->us[j]? = some v->CA w.heap.size S ⟨λ_ _=>none,AH.emp,w⟩ c v) ->
  Calls P (num f) us.toArray w λ e w' => ∃ u,e = .returned u/\Below w.heap.size w w'/\CV w.heap.size S ⟨λ_ _=>none,AH.emp,w'⟩ r u/\A4 r
 dm : ∀ (f:Nat) (vs:List AV) (own:AH) (r:AV) (l6:AH),C.dm f vs own=some (r,l6) -> ∀ (B:Nat) (S:Nat->Prop) (w0:World) (m:M) (us:List Value),m.own=own->BN B S w0 m->vs.length=us.length->(∀ (j:Nat) (c:AV) (v:Value),vs[j]? = some c->us[j]? = some v->CV B S m c v) ->
  Calls P (num f) us.toArray m.w λ e w' => ∃ u m',e = .returned u/\m'.w=w'/\m'.own=l6/\BN B S w0 m'/\DG B S m m'/\CV B S m' r u
 num:C.num=num
end
end Go.b7

namespace Go.b7
open Go.RowKit
theorem PY {α β:Type} (f:α->Option β) : ∀ {l:List α} {l':List β},l.mapM f=some l'->l.length=l'.length /\ ∀ (i:Nat) (x:α),l[i]? = some x -> ∃ y,l'[i]? = some y/\f x=some y
 | [],l',h=>by
  simp at h;subst h;exact ⟨rfl,λ i x hx=>by simp at hx⟩
 | x::r,l',h=>by
  simp only[List.mapM_cons,Option.bind_eq_bind,Option.pure_def]at h;cases hx:f x with
  | none=>simp [hx]at h
  | some y =>
   cases hr:r.mapM f with
   | none=>simp [hx,hr]at h
   | some r' =>
    simp [hx,hr]at h;subst h;obtain ⟨h1,h2⟩:=PY f hr;refine ⟨by simp [h1],λ i z hz => ?_⟩;cases i with
    | zero=>simp at hz;subst hz;exact ⟨y,rfl,hx⟩
    | succ i=>exact h2 i z (by simpa using hz)
section
variable {B:Nat} {S:Nat->Prop} {w0:World} {m:M}
variable {P:Program} {num:Nat->Nat} {o:Oper} {a:Act} {ρ:AP->AV}
theorem tQ (hm:BN B S w0 m) (l0:Bool) (R:Bool->Nat->Prop) (hR : ∀ l b,b<m.w.heap.size->safe B S m l b->R l b) (hL : ∀ s t g,live m s t->m.ν s t=some g->R l0 g) :
  ∀ (d:Nat) (c c':AV) (v:Value),snap m.own l0 d c=some c'->CC B S m c v->Rd m.w R c' v:=by
 intro d;induction d with
 | zero =>
  intro c c' v h hc;cases hc with
  | rd hr =>
   have:c'=c:=by cases hr<;>simp [snap]at h<;>exact h.symm
   subst this;exact hr.mono hR (λ_ _ _ _=>rfl)
  | nil=>simp [snap]at h;subst h;exact .fe _ _ _
  | _=>simp [snap]at h
 | succ d ih =>
  intro c c' v h hc;cases hc with
  | rd hr =>
   have:c'=c:=by cases hr<;>simp [snap]at h<;>exact h.symm
   subst this;exact hr.mono hR (λ_ _ _ _=>rfl)
  | nil=>simp [snap]at h;subst h;exact .fe _ _ _
  | ptr=>simp [snap]at h
  | q8=>simp [snap]at h
  | row s t z off len ad cap ht cn iu ha hb =>
   simp only[snap]at h;cases bh:EH m.own (.row s t z off len) with
   | none=>simp [bh]at h
   | some es =>
    simp only[bh]at h;cases er:es.mapM (λ cs:List AV=>cs.mapM (snap m.own l0 d)) with
    | none=>simp [er]at h
    | some es' =>
     simp [er]at h;subst h;have Je:(∀ e∈es,e.length=z)/\es.length=len /\ ∃ b,m.own.get s t=some b:=by
      simp only[EH]at bh;cases m9:m.own.get s t with
      | none=>simp [m9]at bh
      | some b =>
       simp only[m9]at bh;split at bh
       ·rename_i hle
        obtain rfl:=Option.some.inj bh;refine ⟨λ e he => ?_,by simp;omega,b,rfl⟩;rw[<-hle.2];exact (hm.c9 s t b m9).1 e (List.mem_of_mem_drop (List.mem_of_mem_take he))
       ·cases bh
     obtain ⟨hz,hlen,b,m9⟩:=Je;have u6:CV B S m (.row s t z off len) (.slice ad len cap):= .ca (.one (.row s t z off len ad cap ht cn iu ha hb));obtain ⟨ad2,Fk,news,Es,hE⟩:=bV hm u6 bh hz cn;obtain ⟨rfl,_,rfl⟩:ad=ad2/\len=es.length/\cap=Fk:=by simpa using Es
     obtain ⟨ch,pq⟩:=PY _ er;by_cases h0:es=[]
     ·subst h0
      have:es'=[]:=List.eq_nil_of_length_eq_zero (by rw[<-ch];rfl)
      subst this;have:len=0:=by rw[<-hlen];rfl
      subst this;exact .fe _ _ _
     ·obtain ⟨_,bk⟩:=hb b m9
      rcases bk with ⟨AiM,_⟩|⟨g,arr,e',hg,gx,hh,Gy⟩
      ·exact absurd (List.eq_nil_of_length_eq_zero (by omega)) h0
      ·rw[gx,<-hlen,ch]
       refine .sl l0 es' g (off*z) z cap (λ i j=>news.getD (i*z+j) undef) (λ e=>h0 (List.eq_nil_of_length_eq_zero (by rw[ch,e];rfl))) cn (hL s t g ⟨b,m9⟩ hg) (by omega) (λ e' cr => ?_) (λ i e hi j c hj => ?_) (λ i e hi j c hj => ?_)
       ·obtain ⟨i,hi,rfl⟩:=List.getElem_of_mem cr
        have n8:i<es.length:=by omega
        obtain ⟨y,hy,dh⟩:=pq i es[i] (zE n8);have:es'[i]=y:=by
         have:=(zS hy).2;exact this
        rw[this,<-(PY _ dh).1];exact hz _ (List.getElem_mem n8)
       ·have n8:i<es.length:=by rw[ch];exact (zS hi).1
        obtain ⟨y,hy,dh⟩:=pq i es[i] (zE n8);rw[hi]at hy;obtain rfl:e=y:=by simpa using hy
        obtain ⟨eu,_⟩:=PY _ dh;have zm:j<(es[i]).length:=by rw[eu];exact (zS hj).1
        obtain ⟨u,hu,cb⟩:=hE.rel i es[i] (zE n8) j _ (zE zm);have:=hE.cells _ gx (i*z+j) u hu
        rw[HI]at this;simp only[List.getD,hu,Option.getD_some];exact this
       ·have n8:i<es.length:=by rw[ch];exact (zS hi).1
        obtain ⟨y,hy,dh⟩:=pq i es[i] (zE n8);rw[hi]at hy;obtain rfl:e=y:=by simpa using hy
        obtain ⟨eu,gj⟩:=PY _ dh;have zm:j<(es[i]).length:=by rw[eu];exact (zS hj).1
        obtain ⟨u,hu,cb⟩:=hE.rel i es[i] (zE n8) j _ (zE zm);obtain ⟨c2,pd,yj⟩:=gj j _ (zE zm);rw[hj]at pd;obtain rfl:c=c2:=by simpa using pd
        simp only[List.getD,hu,Option.getD_some];exact ih _ _ _ yj cb
def DA (w:World) (R:Bool->Nat->Prop) (c:AV) (v:Value):Prop :=
 Rd w R c v \/ ∃ (cs:List AV) (vs:List Value),c = .agg cs/\v = .agg vs.toArray/\cs.length=vs.length /\ ∀ (j:Nat) (x:AV) (u:Value),cs[j]? = some x->vs[j]? = some u->Rd w R x u
theorem ZB (hm:BN B S w0 m) (l0:Bool) (R:Bool->Nat->Prop) (hR : ∀ l b,b<m.w.heap.size->safe B S m l b->R l b) (hL : ∀ s t g,live m s t->m.ν s t=some g->R l0 g)
  {c c':AV} {v:Value} (h:CY m.own l0 c=some c') (hc:CV B S m c v):DA m.w R c' v:=by
 cases hc with
 | any v=>simp [CY,snap]at h
 | g8=>simp [CY,snap]at h
 | ca hc=>cases hc with
  | one hc =>
   have h':snap m.own l0 6 c=some c':=by
    cases hc with
    | rd hr=>cases hr<;>simpa [CY] using h
    | _=>simpa [CY] using h
   exact Or.inl (tQ hm l0 R hR hL 6 c c' v h' hc)
  | fn=>simp [CY,snap]at h
  | ou=>simp [CY,snap]at h
  | agg cs vs n6 =>
   simp only[CY]at h;cases gi:cs.mapM (snap m.own l0 6) with
   | none=>simp [gi]at h
   | some bg =>
    simp [gi]at h;subst h;obtain ⟨h1,h2⟩:=PY _ gi;refine Or.inr ⟨bg,vs,rfl,rfl,h1.symm.trans n6.1,λ j x u hx hu => ?_⟩;have hj:j<cs.length:=by rw[h1];exact (zS hx).1
    obtain ⟨y,hy,dh⟩:=h2 j cs[j] (zE hj);rw[hx]at hy;obtain rfl:x=y:=by simpa using hy
    exact tQ hm l0 R hR hL 6 _ _ _ dh (n6.2 j cs[j] u (zE hj) hu)
def DV (w:World) (R:Bool->Nat->Prop) (c:AV) (v:Value):Prop :=
 DA w R c v \/ ∃ (cs:List AV) (vs:List Value),c = .g8 cs/\v = .tuple vs.toArray/\cs.length=vs.length /\ ∀ (j:Nat) (x:AV) (u:Value),cs[j]? = some x->vs[j]? = some u->DA w R x u
theorem AfX (hm:BN B S w0 m) (l0:Bool) (R:Bool->Nat->Prop) (hR : ∀ l b,b<m.w.heap.size->safe B S m l b->R l b) (hL : ∀ s t g,live m s t->m.ν s t=some g->R l0 g)
  {c c':AV} {v:Value} (h:QZ m.own l0 c=some c') (hc:CV B S m c v):DV m.w R c' v:=by
 by_cases ht : ∃ cs,c = .g8 cs
 ·obtain ⟨cs,rfl⟩:=ht
  obtain ⟨vs,rfl,hl,v8⟩:=aW hc;simp only[QZ]at h;cases gi:cs.mapM (CY m.own l0) with
  | none=>simp [gi]at h
  | some bg =>
   simp [gi]at h;subst h;obtain ⟨h1,h2⟩:=PY _ gi;refine Or.inr ⟨bg,vs,rfl,rfl,h1.symm.trans hl,λ j x u hx hu => ?_⟩;have hj:j<cs.length:=by rw[h1];exact (zS hx).1
   obtain ⟨y,hy,dh⟩:=h2 j cs[j] (zE hj);rw[hx]at hy;obtain rfl:x=y:=by simpa using hy
   exact ZB hm l0 R hR hL dh (.ca (v8 j cs[j] u (zE hj) hu))
 ·have h':CY m.own l0 c=some c':=by
   cases c<;>first|exact h|exact absurd ⟨_,rfl⟩ ht
  exact Or.inl (ZB hm l0 R hR hL h' hc)
theorem DA.ca {B:Nat} {S:Nat->Prop} {m:M} {c:AV} {v:Value} (h:DA m.w (safe B S m) c v):CA B S m c v:=by
 rcases h with h|⟨cs,vs,rfl,rfl,hl,hh⟩
 ·exact .one (.rd h)
 ·exact .agg cs vs ⟨hl,λ j x u hx hu => .rd (hh j x u hx hu)⟩
theorem DV.cv {B:Nat} {S:Nat->Prop} {m:M} {c:AV} {v:Value} (h:DV m.w (safe B S m) c v):CV B S m c v:=by
 rcases h with h|⟨cs,vs,rfl,rfl,hl,hh⟩
 ·exact .ca h.ca
 ·exact .g8 cs vs hl λ j x u hx hu=>(hh j x u hx hu).ca
theorem OR : ∀ {cs:List AV},CB cs -> ∀ (j:Nat) (c:AV),cs[j]? = some c->A4 c
 | [],_,j,c,h=>by simp at h
 | x::r,hc,j,c,h=>by
  unfold CB at hc;cases j with
  | zero=>simp at h;subst h;exact hc.1
  | succ j=>exact OR hc.2 j c (by simpa using h)
theorem XC : ∀ {cs:List (List AV)},EN cs -> ∀ (j:Nat) (c:List AV),cs[j]? = some c->CB c
 | [],_,j,c,h=>by simp at h
 | x::r,hc,j,c,h=>by
  unfold EN at hc;cases j with
  | zero=>simp at h;subst h;exact hc.1
  | succ j=>exact XC hc.2 j c (by simpa using h)
theorem Rd.clean {w:World} {R R':Bool->Nat->Prop} (hR : ∀ b,b<w.heap.size->R false b->R' false b) {c:AV} {v:Value} (h:Rd w R c v) (hc:A4 c):Rd w R' c v:=by
 induction h with
 | int k n=>exact .int k n
 | bool b=>exact .bool b
 | str s=>exact .str s
 | ic=>exact .ic
 | fe l a cap=>exact .fe l a cap
 | emp b a cap h=>exact .emp b a cap h
 | sl l es b o a9 cap u l9 hp h1 x7 hz n6 hr ih =>
  unfold A4 at hc;obtain ⟨rfl,hc⟩:=hc;obtain ⟨e,c,he,ep⟩:=VE l9 hp hz;have hb:b<w.heap.size:=RE (n6 0 e he 0 c ep);exact .sl false es b o a9 cap u l9 hp (hR b hb h1) x7 hz n6 λ i e he j c hj=>ih i e he j c hj (OR (XC hc i e he) j c hj)
theorem DA.clean {w:World} {R R':Bool->Nat->Prop} (hR : ∀ b,b<w.heap.size->R false b->R' false b) {c:AV} {v:Value} (h:DA w R c v) (hc:A4 c):DA w R' c v:=by
 rcases h with h|⟨cs,vs,rfl,rfl,hl,hh⟩
 ·exact Or.inl (h.clean hR hc)
 ·unfold A4 at hc
  exact Or.inr ⟨cs,vs,rfl,rfl,hl,λ j x u hx hu=>(hh j x u hx hu).clean hR (OR hc j x hx)⟩
theorem DV.clean {w:World} {R R':Bool->Nat->Prop} (hR : ∀ b,b<w.heap.size->R false b->R' false b) {c:AV} {v:Value} (h:DV w R c v) (hc:A4 c):DV w R' c v:=by
 rcases h with h|⟨cs,vs,rfl,rfl,hl,hh⟩
 ·exact Or.inl (h.clean hR hc)
 ·unfold A4 at hc
  exact Or.inr ⟨cs,vs,rfl,rfl,hl,λ j x u hx hu=>(hh j x u hx hu).clean hR (OR hc j x hx)⟩
theorem aV {B:Nat} {S:Nat->Prop} {m:M} {c:AV} {v:Value} (h:CV B S m c v) (hc:A4 c):DV m.w (safe B S m) c v:=by
 have one : ∀ {c:AV} {v:Value},CC B S m c v->A4 c->Rd m.w (safe B S m) c v:=λ h hc=>by
  cases h with
  | rd h=>exact h
  | _=>unfold A4 at hc;exact hc.elim
 have ca : ∀ {c:AV} {v:Value},CA B S m c v->A4 c->DA m.w (safe B S m) c v:=λ h hc=>by
  cases h with
  | one h=>exact Or.inl (one h hc)
  | fn=>unfold A4 at hc;exact hc.elim
  | ou=>unfold A4 at hc;exact hc.elim
  | agg cs vs h =>
   unfold A4 at hc;exact Or.inr ⟨cs,vs,rfl,rfl,h.1,λ j x u hx hu=>one (h.2 j x u hx hu) (OR hc j x hx)⟩
 cases h with
 | any v=>unfold A4 at hc;exact hc.elim
 | ca h=>exact Or.inl (ca h hc)
 | g8 as vs hl h =>
  unfold A4 at hc;exact Or.inr ⟨as,vs,rfl,rfl,hl,λ j x u hx hu=>ca (h j x u hx hu) (OR hc j x hx)⟩
theorem Y1 {f:Nat} {xs:Array Operand} {ts:Array TypeId} (k8:o.op = .call ⟨.value (.func f),xs,ts⟩) {w:World} (h:(callFunc f (xs.map a.eval)).run P w = .ok (.enter f (xs.map a.eval)) w):(execOp a.eval o).run P w = .ok (.enter f (xs.map a.eval)) w:=by
 simp [execOp,k8,resolve,Deferred.ofValue,Act.eval,invoke];exact h
theorem lU {C:Cl} (hC:G6 P num C) (hm:BN B S w0 m) {f:Nat} {us:List Value} {as:List AV} (hl:us.length=as.length) (hx : ∀ (j:Nat) (v:Value) (c:AV),us[j]? = some v->as[j]? = some c->CV B S m c v) (hex : ∀ w:World,(callFunc (num f) us.toArray).run P w = .ok (.enter (num f) us.toArray) w->(execOp a.eval o).run P w = .ok (.enter (num f) us.toArray) w) {vs:List AV} {r:AV} (hv:as.mapM (CY m.own true)=some vs) (hr:C.pure f vs=some r):CX B S w0 P o a m (.val r):=by
 obtain ⟨eu,gj⟩:=PY _ hv;have gf : ∀ (j:Nat) (c:AV) (v:Value),vs[j]? = some c->us[j]? = some v->CA m.w.heap.size (safe B S m false) ⟨λ_ _=>none,AH.emp,m.w⟩ c v:=by
  intro j c v hc oe;have cg:j<as.length:=by rw[<-hl];exact (zS oe).1
  obtain ⟨y,hy,dh⟩:=gj j as[j] (zE cg);rw[hc]at hy;obtain rfl:c=y:=by simpa using hy
  have u6:=hx j v as[j] oe (zE cg);have xg:=ZB hm true (safe m.w.heap.size (safe B S m false) ⟨λ_ _=>none,AH.emp,m.w⟩) (λ l b hb tt=>by
   cases l with
   | false=>exact .inl ⟨tt,hb⟩
   | true=>exact .inr (.inr ⟨rfl,hb⟩)) (λ s t g z8 hg=>by
   obtain ⟨_,arr,e,hh⟩:=hm.ge z8 hg;exact .inr (.inr ⟨rfl,(Array.getElem?_eq_some_iff.1 hh).1⟩)) dh u6
  exact DA.ca (m:=⟨λ_ _=>none,AH.emp,m.w⟩) xg
 have bp:=hC.pure f vs r hr (safe B S m false) m.w us (by rw[<-eu];exact hl.symm) gf;intro K Q hK;unfold Oper.wp;rw[hex _ (hC.ot f vs r hr _ _)];refine Calls.mono bp λ e w' ⟨u,cr,eo,u6,n6⟩ => ?_
 subst cr;obtain ⟨iv,ct⟩:=grow hm eo;refine hK u ⟨m.ν,m.own,w'⟩ rfl iv ct ?_;refine DV.cv (m:=⟨m.ν,m.own,w'⟩) ((aV u6 n6).clean (λ b hb tt => ?_) n6);rcases tt with ⟨h1,h2⟩|⟨h1,_⟩|⟨h1,_⟩
 ·exact ct.vm false b h2 h1
 ·refine .inr (.inl ⟨Nat.le_trans hm.size h1,λ s t z8 hg => ?_⟩)
  obtain ⟨b',k7⟩:=Option.isSome_iff_exists.1 z8;obtain ⟨_,arr,e,hh⟩:=hm.ge ⟨b',k7⟩ hg;have:=(Array.getElem?_eq_some_iff.1 hh).1
  omega
 ·cases h1
theorem lT {C:Cl} (hC:G6 P num C) (hm:BN B S w0 m) (hs:CT B S m ρ a.eval) {f:Nat} {xs:Array Operand} {m8:List AP} (he:D6 xs.toList m8=true) (hex : ∀ w:World,(callFunc (num f) (xs.map a.eval)).run P w = .ok (.enter (num f) (xs.map a.eval)) w->(execOp a.eval o).run P w = .ok (.enter (num f) (xs.map a.eval)) w) {vs:List AV} {r:AV} (hv:(m8.map ρ).mapM (CY m.own true)=some vs) (hr:C.pure f vs=some r):CX B S w0 P o a m (.val r):=by
 obtain ⟨hl,hx⟩:=RN hs he;have cu:(xs.map a.eval)=(xs.toList.map a.eval).toArray:=by cases xs;simp
 rw[cu]at hex;refine lU hC hm (us:=xs.toList.map a.eval) (as:=m8.map ρ) (by simp [hl]) (λ j v c h1 h2 => ?_) hex hv hr;rw[List.getElem?_map]at h1 h2;cases gq:xs.toList[j]? with
 | none=>simp [gq]at h1
 | some x =>
  cases kf:m8[j]? with
  | none=>simp [kf]at h2
  | some y =>
   simp only[gq,kf,Option.map_some,Option.some.injEq]at h1 h2;subst h1 h2;exact hx j x y gq kf
theorem Rk {C:Cl} (hC:G6 P num C) (hm:BN B S w0 m) (hs:CT B S m ρ a.eval) {f:Nat} {m8:List AP} (h:BA P num o.op (.call f m8)=true) {vs:List AV} {r:AV} (hv:(m8.map ρ).mapM (CY m.own true)=some vs) (hr:C.pure f vs=some r):CX B S w0 P o a m (.val r):=by
 obtain ⟨xs,ts,k8,he⟩:=dI h;exact lT hC hm hs he (λ w h=>Y1 k8 h) hv hr
theorem lQ {C:Cl} (hC:G6 P num C) (hm:BN B S w0 m) (hs:CT B S m ρ a.eval) {f:Nat} {m8:List AP} (h:BA P num o.op (.e9 f m8)=true) {r:AV} {l6:AH} (hr:C.dm f (m8.map ρ) m.own=some (r,l6)):CX B S w0 P o a m (.al r l6):=by
 obtain ⟨xs,ts,k8,he⟩:=Wa h;obtain ⟨hl,hx⟩:=RN hs he;have cu:(xs.map a.eval)=(xs.toList.map a.eval).toArray:=by cases xs;simp
 have bp:=hC.dm f (m8.map ρ) m.own r l6 hr B S w0 m (xs.toList.map a.eval) rfl hm (by simp [hl]) (λ j c v hc hv=>by
  rw[List.getElem?_map]at hc hv;cases gq:xs.toList[j]? with
  | none=>simp [gq]at hv
  | some x =>
   cases kf:m8[j]? with
   | none=>simp [kf]at hc
   | some y =>
    simp [gq]at hv;simp [kf]at hc;subst hv hc;exact hx j x y gq kf)
 intro K Q hK;unfold Oper.wp;rw[Y1 k8 (hC.kn f _ _ _ hr _ _),cu];refine Calls.mono bp λ e w' ⟨u,m',cr,hw,j8,iv,ct,u6⟩ => ?_
 subst cr hw;exact hK u m' j8 iv ct u6
theorem yX (hm:BN B S w0 m) {w':World} (hb:Below m.w.heap.size m.w w') (s:Nat) (b:DY) (gg:Option Nat) (hz : ∀ x∈b.es,x.length=b.a9)
  (hg:match gg with|none=>b.es=[]|some g=>m.w.heap.size<=g /\ ∃ arr e,w'.heap[g]? = some (.cells arr e (0,0)) /\ ∀ i cs,b.es[i]? = some cs -> ∀ j c,cs[j]? = some c -> ∃ u,arr[i*b.a9+j]? = some u/\CC B S ⟨g9 m s gg,m.own.put s ((m.own s).new b),w'⟩ c u) :
  BN B S w0 ⟨g9 m s gg,m.own.put s ((m.own s).new b),w'⟩/\DG B S m ⟨g9 m s gg,m.own.put s ((m.own s).new b),w'⟩:=by
 have hν : ∀ s' t',live m s' t'->g9 m s gg s' t'=m.ν s' t':=λ s' t' hl=>by
  unfold g9;rw[if_neg];rintro ⟨rfl,rfl⟩
  exact YI hm _ hl
 have jl : ∀ g,gg=some g->m.w.heap.size<=g:=λ g e=>by subst e;exact hg.1
 have he:DG B S m ⟨g9 m s gg,m.own.put s ((m.own s).new b),w'⟩:=by
  refine RR hm hb.size (λ k hk _=>hb.block k hk) (λ s' => ?_) (λ s' t' b' ht k7 => ?_) (λ s' t' g hl bj k6 => ?_)
  ·rw[KX];split
   ·rename_i h;subst h;omega
   ·exact Nat.le_refl _
  ·rw[GE]at k7
   rw[if_neg (by rintro ⟨rfl,rfl⟩;omega)]at k7;refine ⟨b',k7,rfl,hν s' t' ⟨b',k7⟩,λ g ar e' bj ha=>⟨ar,?_,rfl⟩⟩;exact (hb.block g (Array.getElem?_eq_some_iff.1 ha).1).trans ha
  ·obtain ⟨b',k7⟩:=hl
   rw[GE]at k7;by_cases h:s'=s/\t'=m.own.g7 s
   ·simp only[g9,if_pos h]at bj
    have:=jl g bj
    omega
   ·rw[if_neg h]at k7
    exact ⟨s',t',⟨b',k7⟩,by rw[<-hν s' t' ⟨b',k7⟩];exact bj⟩
 refine ⟨⟨hm.below.trans (hb.mono hm.size),Nat.le_trans hm.size hb.size,λ s' t' ht => ?_,λ s' t' b' k7 => ?_,λ s1 t1 s2 t2 b1 b2 g h1 h2 g1 g2 => ?_⟩,he⟩
 ·rw[KX]at ht
  rw[GE,if_neg]
  ·refine hm.fresh s' t' ?_
   split at ht
   ·rename_i h;subst h;omega
   ·exact ht
  ·rintro ⟨rfl,rfl⟩
   simp at ht;omega
 ·rw[GE]at k7
  by_cases h:s'=s/\t'=m.own.g7 s
  ·rw[if_pos h]at k7
   obtain rfl:b=b':=by simpa using k7
   refine ⟨hz,?_⟩;show match g9 m s gg s' t' with|none=>_|some g=>_
   rw[show g9 m s gg s' t'=gg by simp [g9,h]];cases gg with
   | none=>exact hg
   | some g=>exact ⟨Nat.le_trans hm.size hg.1,hg.2⟩
  ·rw[if_neg h]at k7
   obtain ⟨h1,h2⟩:=hm.c9 s' t' b' k7;refine ⟨h1,?_⟩;show match g9 m s gg s' t' with|none=>_|some g=>_
   rw[hν s' t' ⟨b',k7⟩];cases hv:m.ν s' t' with
   | none=>rw[hv]at h2;exact h2
   | some g =>
    rw[hv]at h2;obtain ⟨h3,ar,e',h4,h5⟩:=h2;refine ⟨h3,ar,e',(hb.block g (Array.getElem?_eq_some_iff.1 h4).1).trans h4,λ i cs hi j c hj => ?_⟩;obtain ⟨u,hu,v8⟩:=h5 i cs hi j c hj;exact ⟨u,hu,he.cc v8⟩
 ·rw[GE]at h1 h2
  have lt : ∀ s' t' b',m.own.get s' t'=some b'->g9 m s gg s' t'=some g->g<m.w.heap.size:=λ s' t' b' k7 bj=>by
   rw[hν s' t' ⟨b',k7⟩]at bj;obtain ⟨_,ar,e',h4⟩:=hm.ge ⟨b',k7⟩ bj;exact (Array.getElem?_eq_some_iff.1 h4).1
  have at_ : ∀ s' t',s'=s/\t'=m.own.g7 s->g9 m s gg s' t'=some g->m.w.heap.size<=g:=λ s' t' h bj=>by
   simp only[g9,if_pos h]at bj;exact jl g bj
  by_cases p1:s1=s/\t1=m.own.g7 s<;>by_cases p2:s2=s/\t2=m.own.g7 s
  ·exact ⟨p1.1.trans p2.1.symm,p1.2.trans p2.2.symm⟩
  ·rw[if_neg p2]at h2
   have:=lt s2 t2 b2 h2 g2
   have:=at_ s1 t1 p1 g1
   omega
  ·rw[if_neg p1]at h1
   have:=lt s1 t1 b1 h1 g1
   have:=at_ s2 t2 p2 g2
   omega
  ·rw[if_neg p1]at h1
   rw[if_neg p2]at h2;exact hm.inj s1 t1 s2 t2 b1 b2 g h1 h2 (by rw[<-hν s1 t1 ⟨b1,h1⟩];exact g1) (by rw[<-hν s2 t2 ⟨b2,h2⟩];exact g2)
theorem Ro {C:Cl} (hC:G6 P num C) (hm:BN B S w0 m) (hs:CT B S m ρ a.eval) {s f:Nat} {m8:List AP} (h:BA P num o.op (.o8 s f m8)=true) {vs:List AV} (hv:(m8.map ρ).mapM (O5 m.own true)=some vs) {z:Nat} {es:List (List AV)} (hr:ON (C.dm f vs AH.emp)=some (z,es)) :
  CX B S w0 P o a m (.new s ⟨z,es⟩ (λ t => .row s t z 0 es.length)):=by
 obtain ⟨xs,ts,k8,he⟩:=dI (Wc h);obtain ⟨s0,t0,o',b0,Lc,m9,rfl,n6⟩:=yW hr;obtain ⟨hl,hx⟩:=RN hs he;obtain ⟨eu,gj⟩:=PY _ hv;have cu:(xs.map a.eval)=(xs.toList.map a.eval).toArray:=by cases xs;simp
 have gf : ∀ (j:Nat) (c:AV) (v:Value),vs[j]? = some c->(xs.toList.map a.eval)[j]? = some v->CV m.w.heap.size (safe B S m false) ⟨λ_ _=>none,AH.emp,m.w⟩ c v:=by
  intro j c v hc oe;rw[List.getElem?_map]at oe;cases gq:xs.toList[j]? with
  | none=>simp [gq]at oe
  | some x =>
   simp [gq]at oe;subst oe;have cg:j<m8.length:=by rw[<-hl];exact (zS gq).1
   obtain ⟨y,hy,dh⟩:=gj j (ρ m8[j]) (by rw[List.getElem?_map,zE cg];rfl);rw[hc]at hy;obtain rfl:c=y:=by simpa using hy
   have u6:=hx j x m8[j] gq (zE cg);have hN:(ρ m8[j] = .nil/\c = .nil)\/CY m.own true (ρ m8[j])=some c:=by
    cases e:ρ m8[j] with
    | nil=>rw[e]at dh;exact .inl ⟨rfl,(Option.some.inj dh).symm⟩
    | _=>rw[e]at dh;exact .inr dh
   rcases hN with ⟨e1,rfl⟩|dh
   ·rw[e1]at u6
    rw[S7 u6];exact .ca (.one .nil)
   have xg:=ZB hm true (safe m.w.heap.size (safe B S m false) ⟨λ_ _=>none,AH.emp,m.w⟩) (λ l b hb tt=>by
    cases l with
    | false=>exact .inl ⟨tt,hb⟩
    | true=>exact .inr (.inr ⟨rfl,hb⟩)) (λ s t g z8 hg=>by
    obtain ⟨_,arr,e,hh⟩:=hm.ge z8 hg;exact .inr (.inr ⟨rfl,(Array.getElem?_eq_some_iff.1 hh).1⟩)) dh u6
   exact .ca (DA.ca (m:=⟨λ_ _=>none,AH.emp,m.w⟩) xg)
 have hm0:BN m.w.heap.size (safe B S m false) m.w ⟨λ_ _=>none,AH.emp,m.w⟩:=⟨Below.refl _ _,Nat.le_refl _,λ_ _ _=>rfl,(λ s t b h=>by cases h),(λ_ _ _ _ _ _ _ h=>by cases h)⟩;have bp:=hC.dm f vs AH.emp _ o' Lc m.w.heap.size (safe B S m false) m.w ⟨λ_ _=>none,AH.emp,m.w⟩ (xs.toList.map a.eval) rfl hm0 (by rw[<-eu];simp [hl]) gf;intro K Q hK;unfold Oper.wp;rw[Y1 k8 (hC.kn f _ _ _ Lc _ _),cu];refine Calls.mono bp λ e w' ⟨u,m',cr,hw,j8,iv,Ku,u6⟩ => ?_
 subst cr hw;have eo:Below m.w.heap.size m.w m'.w:=iv.below;rw[<-j8]at m9;obtain ⟨hz,jf⟩:=iv.c9 s0 t0 b0 m9;obtain ⟨ad,cap,rfl,ht,cn,iu,ha,hb⟩:=S8 u6;obtain ⟨fc,bk⟩:=hb b0 m9;subst fc;have hold : ∀ s t g,live m s t->m.ν s t=some g->g<m.w.heap.size:=λ s t g z8 hg=>by
  obtain ⟨_,arr,e,hh⟩:=hm.ge z8 hg;exact (Array.getElem?_eq_some_iff.1 hh).1
 have xv : ∀ s' t' g,live ⟨g9 m s (m'.ν s0 t0),m.own.put s ((m.own s).new ⟨b0.a9,b0.es⟩),m'.w⟩ s' t'->g9 m s (m'.ν s0 t0) s' t'=some g->g<m.w.heap.size\/m'.ν s0 t0=some g:=λ s' t' g z8 hg=>by
  obtain ⟨b',k7⟩:=z8;rw[GE]at k7;by_cases j9:s'=s/\t'=m.own.g7 s
  ·simp only[g9,if_pos j9]at hg
   exact Or.inr hg
  ·rw[if_neg j9]at k7
   simp only[g9,if_neg j9]at hg;exact Or.inl (hold s' t' g ⟨b',k7⟩ hg)
 have hR : ∀ b,b<m'.w.heap.size->safe m.w.heap.size (safe B S m false) m' false b->safe B S ⟨g9 m s (m'.ν s0 t0),m.own.put s ((m.own s).new ⟨b0.a9,b0.es⟩),m'.w⟩ false b:=λ b Kr tt=>by
  rcases tt with ⟨h1,h2⟩|⟨h1,h2⟩|⟨h1,_⟩
  ·rcases h1 with h1|⟨h1,h3⟩|⟨h1,_⟩
   ·exact .inl h1
   ·refine .inr (.inl ⟨h1,λ s' t' z8 hg => ?_⟩)
    obtain ⟨b',k7⟩:=Option.isSome_iff_exists.1 z8;have o9:=k7;rw[GE]at o9;by_cases j9:s'=s/\t'=m.own.g7 s
    ·simp only[g9,if_pos j9]at hg
     rw[hg]at jf;have:=jf.1
     omega
    ·rw[if_neg j9]at o9
     simp only[g9,if_neg j9]at hg;exact h3 s' t' (by rw[o9];rfl) hg
   ·cases h1
  ·refine .inr (.inl ⟨Nat.le_trans hm.size h1,λ s' t' z8 hg => ?_⟩)
   rcases xv s' t' b (Option.isSome_iff_exists.1 z8) hg with h3|h3
   ·omega
   ·exact h2 s0 t0 (by rw[m9];rfl) h3
  ·cases h1
 obtain ⟨ya,ct⟩:=yX hm eo s ⟨b0.a9,b0.es⟩ (m'.ν s0 t0) hz (by
  cases hν:m'.ν s0 t0 with
  | none=>rw[hν]at jf;exact jf
  | some g =>
   rw[hν]at jf hR;obtain ⟨h1,arr,e,h2,h3⟩:=jf;refine ⟨h1,arr,e,h2,λ i cs hi j c hj => ?_⟩;obtain ⟨u,hu,v8⟩:=h3 i cs hi j c hj;refine ⟨u,hu,.rd ?_⟩;have pf:=OR (XC n6 i cs hi) j c hj;have ix:Rd m'.w (safe m.w.heap.size (safe B S m false) m') c u:=by
    cases v8 with
    | rd h=>exact h
    | _=>unfold A4 at pf;exact pf.elim
   exact ix.clean hR pf)
 refine hK _ ⟨g9 m s (m'.ν s0 t0),m.own.put s ((m.own s).new ⟨b0.a9,b0.es⟩),m'.w⟩ rfl ya ct (.ca (.one (.row s (m.own.g7 s) b0.a9 0 b0.es.length ad cap (by show m.own.g7 s<AH.g7 (m.own.put s _) s;rw[KX,if_pos rfl];omega) cn iu ha λ b1 sz => ?_)));have Bd:(m.own.put s ((m.own s).new ⟨b0.a9,b0.es⟩)).get s (m.own.g7 s)=some b1:=sz;rw[GE,if_pos ⟨rfl,rfl⟩]at Bd;obtain rfl:=Option.some.inj Bd;refine ⟨rfl,?_⟩;rcases bk with h0|⟨g,arr,e,hg,gx,hh,hle⟩
 ·exact .inl h0
 ·exact .inr ⟨g,arr,e,by simp [g9,hg],gx,hh,hle⟩
theorem kY {p:Bool} {f g:Nat} {cs:List AV} {v:Value} (h:CV B S m (.fn p f g cs) v) (hp:p=false\/cs=[]) : ∃ vs:List Value,v = .func (.func g) #[] vs.toArray/\CL B S m cs vs:=by
 cases h with
 | ca h=>cases h with
  | one h=>cases h with
   | rd h=>cases h
  | fn p f g cs vs hp h=>exact ⟨vs,rfl,h⟩
  | ou f g cs vs l9 h =>
   rcases hp with hp|hp
   ·cases hp
   ·exact absurd hp l9
theorem Ny {f g:Nat} {cs:List AV} {v:Value} (h:CV B S m (.fn true f g cs) v) (l9:cs≠[]) : ∃ vs:List Value,v = .func (.func g) #[.agg vs.toArray] #[]/\CL B S m cs vs:=by
 cases h with
 | ca h=>cases h with
  | one h=>cases h with
   | rd h=>cases h
  | fn p f g cs vs hp h=>exact absurd (hp rfl) l9
  | ou f g cs vs l9 h=>exact ⟨vs,rfl,h⟩
theorem sO {f:Nat} {x:Operand} {xs:Array Operand} {ts:Array TypeId} {vs:Array Value} (k8:o.op = .call ⟨.value x,xs,ts⟩) (hx:a.eval x = .func (.func f) #[] vs) {w:World} (h:(callFunc f (xs.map a.eval++vs)).run P w = .ok (.enter f (xs.map a.eval++vs)) w):(execOp a.eval o).run P w = .ok (.enter f (xs.map a.eval++vs)) w:=by
 simp [execOp,k8,resolve,Deferred.ofValue,hx,invoke];exact h
theorem Rp {C:Cl} (hC:G6 P num C) (hm:BN B S w0 m) (hs:CT B S m ρ a.eval) {x':AP} {m8:List AP} (h:BA P num o.op (.m6 x' m8)=true) {f:Nat} {cs:List AV} (hf:ρ x' = .fn false f (num f) cs) {r:AV} {l6:AH} (hr:C.dm f (m8.map ρ++cs) m.own=some (r,l6)):CX B S w0 P o a m (.al r l6):=by
 obtain ⟨x,xs,ts,k8,fv,he⟩:=dJ h;obtain ⟨hl,hx⟩:=RN hs he;obtain ⟨vs,hv,n6⟩:=kY (hf ▸ hs x x' fv) (.inl rfl);have cu:(xs.map a.eval++vs.toArray)=(xs.toList.map a.eval++vs).toArray:=by cases xs;simp
 have bp:=hC.dm f (m8.map ρ++cs) m.own r l6 hr B S w0 m (xs.toList.map a.eval++vs) rfl hm (by simp [hl,n6.1]) (λ j c v hc hv=>by
  by_cases hj:j<m8.length
  ·rw[List.getElem?_append_left (by simpa using hj),List.getElem?_map]at hc
   rw[List.getElem?_append_left (by simpa [hl] using hj),List.getElem?_map]at hv;have iq:j<xs.toList.length:=by rw[hl];exact hj
   rw[zE hj]at hc;rw[zE iq]at hv;simp only[Option.map_some,Option.some.injEq]at hc hv;subst hc hv;exact hx j _ _ (zE iq) (zE hj)
  ·rw[List.getElem?_append_right (by simpa using hj),List.length_map]at hc
   rw[List.getElem?_append_right (by simpa [hl] using hj),List.length_map,hl]at hv;exact .ca (.one (n6.2 _ c v hc hv)))
 intro K Q hK;unfold Oper.wp;rw[sO k8 hv (hC.kn f _ _ _ hr _ _),cu];refine Calls.mono bp λ e w' ⟨u,m',cr,hw,j8,iv,ct,u6⟩ => ?_
 subst cr hw;exact hK u m' j8 iv ct u6
theorem Rm {C:Cl} (hC:G6 P num C) (hm:BN B S w0 m) (hs:CT B S m ρ a.eval) {x':AP} {m8:List AP} (h:BA P num o.op (.m6 x' m8)=true) {f:Nat} (hf:ρ x' = .fn true f (num f) []) {vs:List AV} {r:AV} (hv:(m8.map ρ).mapM (CY m.own true)=some vs) (hr:C.pure f vs=some r):CX B S w0 P o a m (.val r):=by
 obtain ⟨x,xs,ts,k8,fv,he⟩:=dJ h;obtain ⟨us,hu,n6⟩:=kY (hf ▸ hs x x' fv) (.inr rfl);have hu0:us=[]:=List.eq_nil_of_length_eq_zero (by rw[<-n6.1];rfl);subst hu0;refine lT hC hm hs he (λ w h => ?_) hv hr;have:=sO (P:=P) (w:=w) k8 hu (by simpa using h)
 simpa using this
theorem AfA {f:Nat} {x:Operand} {xs:Array Operand} {ts:Array TypeId} {u:Value} (k8:o.op = .call ⟨.value x,xs,ts⟩) (hx:a.eval x = .func (.func f) #[u] #[]) {w:World} (h:(callFunc f (#[u]++xs.map a.eval)).run P w = .ok (.enter f (#[u]++xs.map a.eval)) w):(execOp a.eval o).run P w = .ok (.enter f (#[u]++xs.map a.eval)) w:=by
 simp [execOp,k8,resolve,Deferred.ofValue,hx,invoke];exact h
theorem Rl {C:Cl} (hC:G6 P num C) (hm:BN B S w0 m) (hs:CT B S m ρ a.eval) {x':AP} {m8:List AP} (h:BA P num o.op (.m6 x' m8)=true) {f:Nat} {c:AV} {cs:List AV} (hf:ρ x' = .fn true f (num f) (c::cs)) {vs:List AV} {r:AV} (hv:(AV.agg (c::cs)::m8.map ρ).mapM (CY m.own true)=some vs) (hr:C.pure f vs=some r):CX B S w0 P o a m (.val r):=by
 obtain ⟨x,xs,ts,k8,fv,he⟩:=dJ h;obtain ⟨us,hu,n6⟩:=Ny (hf ▸ hs x x' fv) (by simp);obtain ⟨hl,hx⟩:=RN hs he;have cu:(#[Value.agg us.toArray]++xs.map a.eval)=(Value.agg us.toArray::xs.toList.map a.eval).toArray:=by cases xs;simp
 refine lU hC hm (us:=Value.agg us.toArray::xs.toList.map a.eval) (as:=AV.agg (c::cs)::m8.map ρ) (by simp [hl]) (λ j v c' h1 h2 => ?_) (λ w h=>by
  rw[<-cu]at h ⊢;exact AfA k8 hu h) hv hr
 cases j with
 | zero =>
  simp only[List.getElem?_cons_zero,Option.some.injEq]at h1 h2;subst h1 h2;exact .ca (.agg _ _ n6)
 | succ j =>
  rw[List.getElem?_cons_succ,List.getElem?_map]at h1 h2;cases gq:xs.toList[j]? with
  | none=>simp [gq]at h1
  | some x =>
   cases kf:m8[j]? with
   | none=>simp [kf]at h2
   | some y =>
    simp only[gq,kf,Option.map_some,Option.some.injEq]at h1 h2;subst h1 h2;exact hx j x y gq kf
theorem Rd.to1 {w:World} {R R':Bool->Nat->Prop} (hR : ∀ l b,b<w.heap.size->R l b -> ∀ l',R' l' b) {c:AV} {v:Value} (h:Rd w R c v) (hq:GK c=true):Rd w R' (UB c) v:=by
 cases h with
 | int k n=>exact .int k n
 | bool b=>exact .bool b
 | str s=>simp [GK]at hq
 | ic=>simp [GK]at hq
 | emp=>simp [GK]at hq
 | fe l a cap=>exact .fe false a cap
 | sl l es b o a9 cap u l9 hp h1 x7 hz n6 hr =>
  obtain ⟨e,c,he,ep⟩:=VE l9 hp hz;have hb:b<w.heap.size:=RE (n6 0 e he 0 c ep);exact .sl false es b o a9 cap u l9 hp (hR l b hb h1 false) x7 hz n6 λ i e he j c hj=>(hr i e he j c hj).mono (λ l b hb h=>hR l b hb h l) (λ_ _ _ _=>rfl)
theorem Rd.ug {w:World} {R R':Bool->Nat->Prop} (hR : ∀ b,b<w.heap.size->R false b->R' true b) {c:AV} {v:Value} (h:Rd w R c v) (hc:A4 c) (hf:UI c):Rd w R' (VQ c) v:=by
 cases h with
 | int k n=>exact .int k n
 | bool b=>exact .bool b
 | str s=>exact hf.elim
 | ic=>exact hf.elim
 | emp=>exact hf.elim
 | fe l a cap=>exact .fe true a cap
 | sl l es b o a9 cap u l9 hp h1 x7 hz n6 hr =>
  unfold A4 at hc;obtain ⟨rfl,hc⟩:=hc;obtain ⟨e,c,he,ep⟩:=VE l9 hp hz;have hb:b<w.heap.size:=RE (n6 0 e he 0 c ep);refine .sl true es b o a9 cap u l9 hp (hR b hb h1) x7 hz n6 λ i e he j c hj => ?_
  have Hr:=hf e (zM he) c (zM hj);have Ln:=hr i e he j c hj;generalize u i j=vv at Ln ⊢;cases Ln<;>first|exact .int _ _|exact .bool _|(simp [eB]at Hr)
theorem dN : ∀ l:List AV,HR l=l.map GM
 | []=>by simp [HR]
 | c::r=>by rw[HR,dN r];rfl
theorem qE : ∀ l:List (List AV),JR l=l.map λ e=>e.map GM
 | []=>by simp [JR]
 | c::r=>by rw[JR,qE r,dN];rfl
theorem Rd.uh {w:World} {R R':Bool->Nat->Prop} (hR : ∀ b,b<w.heap.size->R false b->R' true b) {c:AV} {v:Value} (h:Rd w R c v):A4 c->Rd w R' (GM c) v:=by
 induction h with
 | int k n=>intro _;exact .int k n
 | bool b=>intro _;exact .bool b
 | str s=>intro _;exact .str s
 | ic=>intro _;exact .ic
 | emp b a cap h=>intro _;exact .emp b a cap h
 | fe l a cap=>intro _;exact .fe true a cap
 | sl l es b o a9 cap u l9 hp h1 x7 hz n6 hr ih =>
  intro hc;unfold A4 at hc;obtain ⟨rfl,hc⟩:=hc;obtain ⟨e,c,he,ep⟩:=VE l9 hp hz;have hb:b<w.heap.size:=RE (n6 0 e he 0 c ep);have lg : ∀ (i:Nat) (e':List AV),(es.map λ e:List AV=>e.map GM)[i]? = some e' -> ∃ e,es[i]? = some e/\e'=e.map GM:=λ i e' h=>by
   rw[List.getElem?_map]at h;cases hi:es[i]? with
   | none=>simp [hi]at h
   | some e=>exact ⟨e,rfl,by simpa [hi] using h.symm⟩
  have Bb : ∀ (e:List AV) (j:Nat) (c':AV),(e.map GM)[j]? = some c' -> ∃ c,e[j]? = some c/\c'=GM c:=λ e j c' h=>by
   rw[List.getElem?_map]at h;cases hi:e[j]? with
   | none=>simp [hi]at h
   | some c=>exact ⟨c,rfl,by simpa [hi] using h.symm⟩
  have key:=Rd.sl (w:=w) (R:=R') true (es.map λ e:List AV=>e.map GM) b o a9 cap u (by simpa using l9) hp (hR b hb h1) (by simpa using x7)
   (λ e' cr=>by
    obtain ⟨e,he,rfl⟩:=List.mem_map.1 cr;rw[List.length_map];exact hz e he)
   (λ i e' hi j c' hj=>by
    obtain ⟨e,he,rfl⟩:=lg i e' hi;obtain ⟨c,zi,rfl⟩:=Bb e j c' hj;exact n6 i e he j c zi)
   (λ i e' hi j c' hj=>by
    obtain ⟨e,he,rfl⟩:=lg i e' hi;obtain ⟨c,zi,rfl⟩:=Bb e j c' hj;exact ih i e he j c zi (OR (XC hc i e he) j c zi))
  rw[List.length_map]at key;rw[GM,qE];exact key
theorem Rn {C:Cl} (hC:G6 P num C) (hm:BN B S w0 m) (hs:CT B S m ρ a.eval) {f:Nat} {m8:List AP} (h:BA P num o.op (.l8 f m8)=true) (hq:(m8.map ρ).all dq=true) {r:AV} (hr:C.pure f ((m8.map ρ).map ry)=some r) (Hd:IE r\/Q4 r):CX B S w0 P o a m (.val (LM r)):=by
 obtain ⟨xs,ts,k8,he⟩:=dI (Wb h);obtain ⟨hl,hx⟩:=RN hs he;have cu:(xs.map a.eval)=(xs.toList.map a.eval).toArray:=by cases xs;simp
 have hR : ∀ l b,b<m.w.heap.size->safe B S m l b -> ∀ l',safe m.w.heap.size (safe B S m true) ⟨λ_ _=>none,AH.emp,m.w⟩ l' b:=λ l b hb h l' => .inl ⟨fW h,hb⟩
 have hcell : ∀ (c:AV) (v:Value),CC B S m c v->GK c=true->Rd m.w (safe m.w.heap.size (safe B S m true) ⟨λ_ _=>none,AH.emp,m.w⟩) (UB c) v:=λ c v hc hd=>by
  cases hc with
  | rd hr=>exact hr.to1 hR hd
  | nil=>exact .fe false none 0
  | row=>simp [GK]at hd
  | ptr=>simp [GK]at hd
  | q8=>simp [GK]at hd
 have gf : ∀ (j:Nat) (c:AV) (v:Value),((m8.map ρ).map ry)[j]? = some c->(xs.toList.map a.eval)[j]? = some v->CA m.w.heap.size (safe B S m true) ⟨λ_ _=>none,AH.emp,m.w⟩ c v:=by
  intro j c v hc oe;rw[List.getElem?_map,List.getElem?_map]at hc;rw[List.getElem?_map]at oe;cases gq:xs.toList[j]? with
  | none=>simp [gq]at oe
  | some x =>
   cases kf:m8[j]? with
   | none=>simp [kf]at hc
   | some y =>
    simp [gq]at oe;simp [kf]at hc;subst oe hc;have u6:=hx j x y gq kf;have hd:dq (ρ y)=true:=List.all_eq_true.1 hq _ (List.mem_map_of_mem (zM kf));generalize ρ y=cy at u6 hd ⊢;generalize a.eval x=vx at u6 ⊢;cases u6 with
    | any=>simp [dq,GK]at hd
    | g8=>simp [dq,GK]at hd
    | ca nj =>
     cases nj with
     | one ta =>
      have nk:GK cy=true/\ry cy=UB cy:=by
       cases ta with
       | rd hr=>cases hr<;>exact ⟨hd,rfl⟩
       | _=>exact ⟨hd,rfl⟩
      rw[nk.2];exact .one (.rd (hcell _ _ ta nk.1))
     | agg cs vs n6 =>
      refine .agg (cs.map UB) vs ⟨by simpa using n6.1,λ k c' v' q6 fi => ?_⟩;rw[List.getElem?_map]at q6;cases lk:cs[k]? with
      | none=>simp [lk]at q6
      | some c0 =>
       simp [lk]at q6;subst q6;exact .rd (hcell c0 v' (n6.2 k c0 v' lk fi) (List.all_eq_true.1 hd _ (zM lk)))
     | fn=>simp [dq,GK]at hd
     | ou=>simp [dq,GK]at hd
 have bp:=hC.pure f _ r hr (safe B S m true) m.w (xs.toList.map a.eval) (by simp [hl]) gf;intro K Q hK;unfold Oper.wp;rw[Y1 k8 (hC.ot f _ r hr _ _),cu];refine Calls.mono bp λ e w' ⟨u,cr,eo,u6,n6⟩ => ?_
 subst cr;obtain ⟨iv,ct⟩:=grow hm eo;refine hK u ⟨m.ν,m.own,w'⟩ rfl iv ct ?_;have eh : ∀ b,b<w'.heap.size->safe m.w.heap.size (safe B S m true) ⟨λ_ _=>none,AH.emp,w'⟩ false b->safe B S ⟨m.ν,m.own,w'⟩ true b:=λ b hb tt=>by
  rcases tt with ⟨h1,h2⟩|⟨h1,_⟩|⟨h1,_⟩
  ·exact ct.vm true b h2 h1
  ·refine .inr (.inl ⟨Nat.le_trans hm.size h1,λ s t z8 hg => ?_⟩)
   obtain ⟨b',k7⟩:=Option.isSome_iff_exists.1 z8;obtain ⟨_,arr,e,hh⟩:=hm.ge ⟨b',k7⟩ hg;have:=(Array.getElem?_eq_some_iff.1 hh).1
   omega
  ·cases h1
 by_cases du:IE r
 ·rw[dQ du]
  rcases aV u6 n6 with xg|⟨cs,vs,rfl,_⟩
  ·rcases xg with ix|⟨cs,vs,rfl,rfl,eu,hh⟩
   ·have e1:uc r=VQ r/\UI r:=by cases ix<;>exact ⟨rfl,du⟩
    rw[show CG.valOf (.val (uc r)) m.own=uc r from rfl,e1.1];exact .ca (.one (.rd (ix.ug eh n6 e1.2)))
   ·unfold A4 at n6
    refine .ca (.agg (cs.map VQ) vs ⟨by simpa using eu,λ k c' v' q6 fi => ?_⟩);rw[List.getElem?_map]at q6;cases lk:cs[k]? with
    | none=>simp [lk]at q6
    | some c0 =>
     simp [lk]at q6;subst q6;exact .rd ((hh k c0 v' lk fi).ug eh (OR n6 k c0 lk) (du c0 (zM lk)))
  ·exact du.elim
 ·rw[dP du]
  have hd:=Hd.resolve_left du;rcases aV u6 n6 with xg|⟨cs,vs,rfl,_⟩
  ·rcases xg with ix|⟨cs,vs,rfl,rfl,eu,hh⟩
   ·have e1:KG r=GM r:=by cases ix<;>rfl
    rw[show CG.valOf (.val (KG r)) m.own=KG r from rfl,e1];exact .ca (.one (.rd (ix.uh eh n6)))
   ·unfold A4 at n6
    rw[show CG.valOf (.val (KG (.agg cs))) m.own = .agg (HR cs) from rfl,dN];refine .ca (.agg (cs.map GM) vs ⟨by simpa using eu,λ k c' v' q6 fi => ?_⟩);rw[List.getElem?_map]at q6;cases lk:cs[k]? with
    | none=>simp [lk]at q6
    | some c0 =>
     simp [lk]at q6;subst q6;exact .rd ((hh k c0 v' lk fi).uh eh (OR n6 k c0 lk))
  ·exact hd.elim
end
end Go.b7

namespace Go.b7
open Go.RowKit
section
variable {B:Nat} {S:Nat->Prop} {w0:World} {m:M}
variable {P:Program} {num:Nat->Nat} {o:Oper} {a:Act} {ρ:AP->AV} {C:Cl} {c4:List Nat}
theorem Sf (hm:BN B S w0 m) (hs:CT B S m ρ a.eval) {mx:Bool} {m8:List AP} (h:BA P num o.op (.mm mx m8)=true) {v r:AV} {l:List AV} (hx:m8.map ρ=v::l) (hv:KI mx v l=some r):CX B S w0 P o a m (.val r):=by
 by_cases hi : ∃ k n,v = .int k n
 ·exact Se hm hs h hx hv hi
 ·cases l with
  | cons u q =>
   simp only[KI]at hv;exfalso;cases v<;>first|(exact hi ⟨_,_,rfl⟩)|(simp [PZ]at hv)
  | nil =>
   simp only[KI,Option.some.injEq]at hv;subst hv;obtain ⟨xs,ts,k8,he⟩:=pM h;cases m8 with
   | nil=>simp at hx
   | cons y yr =>
    simp only[List.map_cons,List.cons.injEq,List.map_eq_nil_iff]at hx;obtain ⟨rfl,rfl⟩:=hx;obtain ⟨xl⟩:=xs;cases xl with
    | nil=>simp [D6]at he
    | cons x xr =>
     simp only[D6,Bool.and_eq_true]at he;cases xr with
     | cons=>simp [D6]at he
     | nil =>
      refine EG hm (u:=a.eval x) ?_ (hs x y he.1);cases mx<;>simp [execOp,k8,resolve,invoke,builtin,Builtin.min_,Builtin.max_]
theorem oT (o:AH) (l:List Nat) (s t:Nat) (b:DY) (h:(o.m5 l).get s t=some b):o.get s t=some b:=by
 induction l with
 | nil=>exact h
 | cons x r ih =>
  unfold AH.get AH.m5 at h;by_cases hs:s=x
  ·simp [hs]at h
  ·simp only[if_neg hs]at h
   exact ih h
theorem Yx {o:AH} {l:List Nat} {s t i j n:Nat} {cs:List AV} (h:(o.m5 l).ma s t i j n=some cs):o.ma s t i j n=some cs:=by
 unfold AH.ma at *;cases hg:(o.m5 l).get s t with
 | none=>simp [hg]at h
 | some b =>
  rw[oT o l s t b hg];simpa [hg] using h
theorem Rf {o:AH} {l:List Nat} {v:AV} {es:List (List AV)} (h:EH (o.m5 l) v=some es):EH o v=some es:=by
 cases v with
 | x9 v=>cases v<;>exact h
 | row s t z off len =>
  simp only[EH]at h ⊢;cases hg:(o.m5 l).get s t with
  | none=>simp [hg]at h
  | some b =>
   rw[oT o l s t b hg];simpa [hg] using h
 | _=>exact h
theorem TM {α β:Type} {f g:α->Option β} (Kw : ∀ x y,f x=some y->g x=some y) : ∀ {l:List α} {l':List β},l.mapM f=some l'->l.mapM g=some l'
 | [],l',h=>by simpa using h
 | x::r,l',h=>by
  simp only[List.mapM_cons,Option.bind_eq_bind,Option.pure_def]at h ⊢;cases hx:f x with
  | none=>simp [hx]at h
  | some y =>
   cases hr:r.mapM f with
   | none=>simp [hx,hr]at h
   | some r' =>
    simp [hx,hr]at h;simp [Kw x y hx,TM Kw hr,h]
theorem gJ (o:AH) (l:List Nat) (b:Bool) : ∀ (d:Nat) (c c':AV),snap (o.m5 l) b d c=some c'->snap o b d c=some c'
 | 0,c,c',h=>by cases c<;>simp_all [snap]
 | d+1,c,c',h=>by
  cases c<;>first|(simp_all [snap];done)|skip
  rename_i s t z off len;simp only[snap]at h ⊢;cases he:EH (o.m5 l) (.row s t z off len) with
  | none=>simp [he]at h
  | some es =>
   simp only[he]at h;rw[Rf he];simp only[Option.map_eq_some_iff]at h ⊢;obtain ⟨es',h1,h2⟩:=h;exact ⟨es',TM (λ x y hx=>TM (gJ o l b d) hx) h1,h2⟩
theorem tP (o:AH) (l:List Nat) (b:Bool) (c c':AV) (h:CY (o.m5 l) b c=some c'):CY o b c=some c':=by
 cases c<;>first|exact gJ o l b 6 _ _ h|skip
 simp only[CY,Option.map_eq_some_iff]at h ⊢;obtain ⟨cs,h1,h2⟩:=h;exact ⟨cs,TM (gJ o l b 6) h1,h2⟩
theorem AfW (o:AH) (l:List Nat) (b:Bool) (c c':AV) (h:O5 (o.m5 l) b c=some c'):O5 o b c=some c':=by
 rcases Classical.em (c = .nil) with rfl|hc
 ·exact h
 ·have e : ∀ o:AH,O5 o b c=CY o b c:=λ o=>by cases c<;>first|rfl|exact (hc rfl).elim
  rw[e]at h ⊢;exact tP o l b _ _ h
theorem Zl {o:AH} {l:List Nat} {b:Bool} {xs vs:List AV} (h:xs.mapM (O5 (o.m5 l) b)=some vs):xs.mapM (O5 o b)=some vs:=TM (AfW o l b) h
theorem Zj {o:AH} {l:List Nat} {b:Bool} {xs vs:List AV} (h:xs.mapM (CY (o.m5 l) b)=some vs):xs.mapM (CY o b)=some vs:=TM (tP o l b) h
theorem Af9 {own l6:AH} {s t i j:Nat} {vs:List AV} (h:own.ij s t i j vs=some l6):own.put s (l6 s)=l6:=by
 unfold AH.ij at h;cases hg:own.get s t with
 | none=>simp [hg]at h
 | some b =>
  simp only[hg]at h;cases he:b.es[i]? with
  | none=>simp [he]at h
  | some cs =>
   simp only[he]at h;split at h
   ·obtain rfl:=Option.some.inj h
    rw[AH.j5]
   ·cases h
theorem Rc (hC:G6 P num C) (hm:BN B S w0 m) (hs:CT B S m ρ a.eval) {yp:DR} (j6:BA P num o.op yp=true) {E:CG} (h:e8 C c4 ρ m.own yp=some E):CX B S w0 P o a m E:=by
 cases yp with
 | a8 x=>simp only[e8,Option.some.injEq]at h;subst h;exact Sg hm hs j6
 | x8 s z=>simp only[e8,Option.some.injEq]at h;subst h;exact Qm hm j6
 | pick c x y =>
  simp only[e8]at h;split at h
  ·rename_i hc;simp only[Option.some.injEq]at h;subst h;exact lS hm hs j6 hc
  ·rename_i hc;simp only[Option.some.injEq]at h;subst h;exact lS hm hs j6 hc
  ·cases h
 | bin f x y =>
  simp only[e8]at h;split at h
  ·rename_i k n k' n' hx hy
   simp only[Option.map_eq_some_iff]at h;obtain ⟨v,hv,rfl⟩:=h;exact Nm hm hs j6 hx hy hv
  ·cases h
 | beq ne x y =>
  simp only[e8]at h;split at h
  ·rename_i b b' hx hy
   simp only[Option.some.injEq]at h;subst h;exact Nl hm hs j6 hx hy
  ·cases h
 | un f x =>
  simp only[e8,Option.map_eq_some_iff]at h;obtain ⟨v,hv,rfl⟩:=h;exact Ql hm hs j6 hv
 | conv k x =>
  simp only[e8]at h;split at h
  ·rename_i k' n hx
   simp only[Option.some.injEq]at h;subst h;exact Rq hm hs j6 hx
  ·cases h
 | box s x =>
  simp only[e8]at h;split at h
  ·rename_i cs gi
   simp only[Option.some.injEq]at h;subst h;exact Rh hm hs j6 gi
  ·cases h
 | alloc s z=>simp only[e8,Option.some.injEq]at h;subst h;exact Ni hm j6
 | build z ps =>
  simp only[e8,Option.map_eq_some_iff]at h;obtain ⟨cs,gi,rfl⟩:=h;exact Rj hm hs j6 gi
 | b8 s a9 ps =>
  simp only[e8]at h;split at h
  ·rename_i es er
   split at h
   ·rename_i hz
    simp only[Option.some.injEq]at h;subst h;exact Ri hm hs j6 er hz
   ·cases h
  ·cases h
 | a5 x off =>
  simp only[e8]at h;split at h
  ·rename_i s t i j hx
   simp only[Option.some.injEq]at h;subst h;exact Rt hm hs j6 hx
  ·rename_i cs hx
   simp only[Option.some.injEq]at h;subst h;exact Rs hm hs j6 hx
  ·cases h
 | jy x off n agg =>
  simp only[e8]at h;split at h
  ·rename_i cs hx
   split at h
   ·rename_i ds hp
    simp only[Option.map_eq_some_iff]at h;obtain ⟨v,hv,rfl⟩:=h;exact Ru hm hs j6 hx hp hv
   ·cases h
  ·cases h
 | a7 arr a9 x i =>
  simp only[e8]at h;split at h
  ·rename_i k n hi
   split at h
   ·rename_i len s t i' j hx
    split at h
    ·rename_i hn
     simp only[Option.some.injEq]at h;subst h;exact Rv hm hs j6 hi hx hn.1 hn.2
    ·cases h
   ·rename_i len cs hx
    split at h
    ·rename_i hn
     simp only[Option.some.injEq]at h;subst h;exact Rw hm hs j6 hi hx hn.1 hn.2
    ·cases h
   ·rename_i s t z off len hx
    split at h
    ·rename_i hn
     simp only[Option.some.injEq]at h;subst h;exact Rx hm hs j6 hi hx hn.1 hn.2.1 hn.2.2
    ·cases h
   ·rename_i l es hx
    split at h
    ·rename_i h0
     split at h
     ·rename_i cs gi
      split at h
      ·rename_i hz
       simp only[Option.some.injEq]at h;subst h;exact Ry hm hs j6 hi hx h0 gi hz
      ·cases h
     ·cases h
    ·cases h
   ·cases h
  ·cases h
 | ld agg n x =>
  simp only[e8]at h;split at h
  ·rename_i s t i j hx
   split at h
   ·rename_i cs gi
    simp only[Option.map_eq_some_iff]at h;obtain ⟨v,hv,rfl⟩:=h;exact Sa hm hs j6 hx (Yx gi) hv
   ·cases h
  ·rename_i cs hx
   split at h
   ·rename_i ds hp
    simp only[Option.map_eq_some_iff]at h;obtain ⟨v,hv,rfl⟩:=h;exact Rz hm hs j6 hx hp hv
   ·cases h
  ·cases h
 | st n x v =>
  simp only[e8]at h;split at h
  ·rename_i s t i j vs hx br
   split at h
   ·rename_i hn
    simp only[Option.map_eq_some_iff]at h;obtain ⟨l6,ho,rfl⟩:=h;exact lX hm hs j6 hx br hn ho
   ·cases h
  ·cases h
 | mk s a9 bytes zero l c =>
  simp only[e8]at h;split at h
  ·rename_i kl a' kc b' hl hc
   split at h
   ·rename_i hn
    simp only[Option.some.injEq]at h;subst h;exact Sc hm hs j6 hl hc hn.1 hn.2.1 hn.2.2.1 hn.2.2.2.1 hn.2.2.2.2
   ·cases h
  ·cases h
 | bz a9 x lo hi =>
  simp only[e8]at h;have Jq : ∀ (d:Nat) (y:Option AP) (q:Nat),(match y with|none=>some d|some o=>match ρ o with | .int _ n=>if 0<=n/\n<=d then some n.toNat else none|_=>none)=some q -> ∃ n:Int,HK ρ d y=some n/\0<=n/\n<=d/\q=n.toNat:=λ d y q hq=>by
   cases y with
   | none=>simp only[Option.some.injEq]at hq;subst hq;exact ⟨d,rfl,by omega,by omega,by simp⟩
   | some y =>
    simp only at hq;cases hy:ρ y with
    | int k n =>
     simp only[hy]at hq;split at hq
     ·rename_i hn
      simp only[Option.some.injEq]at hq;subst hq;exact ⟨n,by simp [HK,hy],hn.1,hn.2,rfl⟩
     ·cases hq
    | _=>simp [hy]at hq
  have Ag : ∀ (y:Option AP) (q:Nat),(match y with|none=>some 0|some o=>match ρ o with | .int _ n=>if 0<=n then some n.toNat else none|_=>none)=some q -> ∃ n:Int,HK ρ 0 y=some n/\0<=n/\q=n.toNat:=λ y q hq=>by
   cases y with
   | none=>simp only[Option.some.injEq]at hq;subst hq;exact ⟨0,rfl,by omega,by simp⟩
   | some y =>
    simp only at hq;cases hy:ρ y with
    | int k n =>
     simp only[hy]at hq;split at hq
     ·rename_i hn
      simp only[Option.some.injEq]at hq;subst hq;exact ⟨n,by simp [HK,hy],hn,rfl⟩
     ·cases hq
    | _=>simp [hy]at hq
  have Ah : ∀ (y:Option AP) (q:Nat),(match y with|none=>some 0|some o=>match ρ o with | .int _ n=>if n=0 then some 0 else none|_=>none)=some q->HK ρ 0 y=some 0:=λ y q hq=>by
   cases y with
   | none=>rfl
   | some y =>
    simp only at hq;cases hy:ρ y with
    | int k n =>
     simp only[hy]at hq;split at hq
     ·rename_i hn
      subst hn;simp [HK,hy]
     ·cases hq
    | _=>simp [hy]at hq
  split at h
  ·rename_i l es hx
   split at h
   ·rename_i q1 q2 h1 h2
    split at h
    ·rename_i hq
     simp only[Option.some.injEq]at h;subst h;obtain ⟨n1,b1,c1,rfl⟩:=Ag _ _ h1;obtain ⟨n2,b2,c2,c3,rfl⟩:=Jq _ _ _ h2;exact Qk hm hs j6 hx b1 b2 c1 (by omega) c3 hq.2
    ·cases h
   ·cases h
  ·rename_i hx
   split at h
   ·rename_i q1 q2 h1 h2
    simp only[Option.some.injEq]at h;subst h;exact Qi hm hs j6 hx (Ah _ _ h1) (Ah _ _ h2)
   ·cases h
  ·rename_i s t z off len hx
   split at h
   ·rename_i q1 q2 h1 h2
    split at h
    ·rename_i hq
     simp only[Option.some.injEq]at h;subst h;obtain ⟨n1,b1,c1,rfl⟩:=Ag _ _ h1;obtain ⟨n2,b2,c2,c3,rfl⟩:=Jq _ _ _ h2;exact Qj hm hs j6 hx b1 b2 c1 (by omega) c3 hq.2
    ·cases h
   ·cases h
  ·cases h
 | ext x i =>
  simp only[e8]at h;split at h
  ·rename_i vs hx
   simp only[Option.map_eq_some_iff]at h;obtain ⟨v,hv,rfl⟩:=h;exact Rr hm hs j6 hx hv
  ·cases h
 | len x =>
  simp only[e8]at h;split at h
  ·rename_i n hn
   simp only[Option.some.injEq]at h;subst h;exact Sb hm hs j6 hn
  ·cases h
 | mm mx xs =>
  simp only[e8]at h;split at h
  ·cases h
  ·rename_i v r hx
   simp only[Option.map_eq_some_iff]at h;obtain ⟨q,hq,rfl⟩:=h;exact Sf hm hs j6 hx hq
 | app s a9 bytes x y =>
  simp only[e8]at h;split at h
  ·rename_i ys tu
   split at h
   ·rename_i hz
    split at h
    ·rename_i s' t z len hx
     split at h
     ·rename_i b hb
      split at h
      ·rename_i hn
       obtain ⟨n1,rfl,n3,n4,n5⟩:=hn;simp only[Option.some.injEq]at h;subst h;exact Nk hm hs j6 tu hz hx hb n1 n3 n4 n5
      ·cases h
     ·cases h
    ·rename_i hx
     split at h
     ·rename_i hn
      simp only[Option.some.injEq]at h;subst h;exact Nj hm hs j6 tu hz hx hn.1 hn.2
     ·cases h
    ·cases h
   ·cases h
  ·cases h
 | call f xs =>
  simp only[e8]at h;split at h
  ·rename_i vs br
   simp only[Option.map_eq_some_iff]at h;obtain ⟨r,hr,rfl⟩:=h;exact Rk hC hm hs j6 (Zj br) hr
  ·cases h
 | e9 f xs =>
  simp only[e8,Option.map_eq_some_iff]at h;obtain ⟨r,hr,rfl⟩:=h;exact lQ hC hm hs j6 hr
 | nr ne x =>
  simp only[e8]at h;split at h
  ·rename_i hx
   simp only[Option.some.injEq]at h;subst h;exact XR hm hs j6 (b:=true) λ v hv=>by rw[hx]at hv;exact ⟨none,0,0,S7 hv,rfl⟩
  ·rename_i b hx
   simp only[Option.some.injEq]at h;subst h;exact XR hm hs j6 (b:=b) λ v hv=>by
    rw[hx]at hv;obtain ⟨ad,c,h1,h2⟩:=kX hv;exact ⟨ad,0,c,h1,h2⟩
  ·rename_i hx
   simp only[Option.some.injEq]at h;subst h;exact XR hm hs j6 (b:=false) λ v hv=>by rw[hx]at hv;exact Ob hv
  ·rename_i hx
   simp only[Option.some.injEq]at h;subst h;exact XR hm hs j6 (b:=false) λ v hv=>by rw[hx]at hv;exact Oa hv
  ·cases h
 | bad =>
  have h:(none:Option CG)=some E:=h;cases h
 | z7 s f xs =>
  simp only[e8,Option.map_eq_some_iff]at h;obtain ⟨p,hp,rfl⟩:=h;exact lQ hC hm hs (We j6) (W8.1 hp m.own rfl)
 | de tb x =>
  simp only[e8]at h;split at h
  ·rename_i k n hx
   split at h
   ·rename_i h0
    split at h
    ·rename_i v hv
     simp only[Option.some.injEq]at h;subst h;exact Qh hm hs j6 hx h0 hv
    ·cases h
   ·cases h
  ·cases h
 | ki p f xs =>
  simp only[e8,Option.map_eq_some_iff]at h;obtain ⟨cs,gi,rfl⟩:=h;rw[hC.num];exact Sd hm hs j6 gi
 | l8 f xs =>
  simp only[e8]at h;split at h
  ·rename_i hq
   split at h
   ·rename_i r hr
    split at h
    ·rename_i du
     simp only[Option.some.injEq]at h;subst h;exact Rn hC hm hs j6 hq hr du
    ·cases h
   ·cases h
  ·cases h
 | o8 s f xs =>
  simp only[e8]at h;split at h
  ·rename_i vs br
   simp only[Option.map_eq_some_iff]at h;obtain ⟨⟨z,es⟩,hr,rfl⟩:=h;exact Ro hC hm hs j6 (Zl br) hr
  ·cases h
 | kj s n x v =>
  simp only[e8]at h;split at h
  ·rename_i s' t i j vs hx br
   split at h
   ·rename_i hn
    obtain ⟨rfl,hn⟩:=hn;simp only[Option.map_eq_some_iff]at h;obtain ⟨l6,ho,rfl⟩:=h;have:=lX hm hs (Yr j6) hx br hn ho
    intro K Q hK;refine this K Q λ u m' h1 h2 h3 h4=>hK u m' ?_ h2 h3 h4
    rw[h1];exact (Af9 ho).symm
   ·cases h
  ·cases h
 | m6 x xs =>
  simp only[e8]at h;split at h
  ·rename_i p f g cs hx
   split at h
   ·rename_i hg
    rw[hC.num]at hg;subst hg;split at h
    ·split at h
     ·rename_i vs br
      simp only[Option.map_eq_some_iff]at h;obtain ⟨r,hr,rfl⟩:=h;exact Rm hC hm hs j6 hx br hr
     ·cases h
    ·simp only[Option.map_eq_some_iff]at h
     obtain ⟨r,hr,rfl⟩:=h;exact Rp hC hm hs j6 hx hr
    ·split at h
     ·rename_i vs br
      simp only[Option.map_eq_some_iff]at h;obtain ⟨r,hr,rfl⟩:=h;exact Rl hC hm hs j6 hx br hr
     ·cases h
   ·cases h
  ·cases h
end
end Go.b7

namespace Go.b7
open Go.RowKit
def EC (T:Nat->AV):AP->AV
 | .t n=>T n
 | .c v=>v
def JM (T:Nat->AV) (d:Option Nat) (v:AV):Nat->AV:=λ j=>if d=some j then v else T j
def LB (T:Nat->AV):Option (Nat × Bool)->Option Bool
 | none=>some true
 | some (g,want)=>match T g with
  | .bool b=>some (b == want)
  | .g8 []=>some false
  | _=>none
theorem mR (st:St):st.ev=EC (g6 st.tm):=by funext x;cases x<;>rfl
theorem Wr (st:St) (g:Option (Nat × Bool)):FJ st g=LB (g6 st.tm) g:=rfl
theorem mD (st:St) (d:Option Nat) (v:AV):g6 (st.dst d v).tm=JM (g6 st.tm) d v:=by
 cases d with
 | none=>funext j;simp [St.dst,JM]
 | some d =>
  funext j
  simp only[St.dst,JM,WL];by_cases h:j=d
  ·simp [h]
  ·simp [h,Ne.symm h]
theorem zC (st:St) (d:Option Nat) (E:CG):g6 (st.app d E).tm=JM (g6 st.tm) d (E.valOf st.own):=by
 cases E<;>simp only[St.app,CG.valOf]<;>exact mD st d _
theorem mE (st:St) (d:Option Nat) (v:AV):(st.dst d v).own=st.own:=by cases d<;>rfl
theorem zB (st:St) (d:Option Nat) (E:CG):(st.app d E).own=E.v7 st.own:=by
 cases E with
 | val v=>simp only[St.app,CG.v7];exact mE st d v
 | _=>rfl
section
variable {B:Nat} {S:Nat->Prop} {w0:World} {m0:M} {N:Nat}
variable {P:Program} {num:Nat->Nat} {C:Cl} {Q:Exit->Act->World->Prop}
structure FM (B:Nat) (S:Nat->Prop) (w0:World) (m0:M) (N:Nat) (T:Nat->AV) (m:M) (a:Act):Prop where
 mem:BN B S w0 m
 ext:DG B S m0 m
 tm : ∀ i,CV B S m (T i) (a.tmps.getD i undef)
 size:a.tmps.size=N
 defers:a.defers=[]
theorem FM.put {T:Nat->AV} {m m':M} {a:Act} (h:FM B S w0 m0 N T m a) (d:Option Nat) (hd : ∀ k,d=some k->k<N) {v:AV} {u:Value} (hm:BN B S w0 m') (he:DG B S m m') (hc:CV B S m' v u):FM B S w0 m0 N (JM T d v) m' (a.put d u):=by
 refine ⟨hm,h.ext.trans he,λ i => ?_,?_,?_⟩
 ·cases d with
  | none=>simpa [JM,Act.put] using he.cv (h.tm i)
  | some k =>
   have hk:k<a.tmps.size:=by rw[h.size];exact hd k rfl
   by_cases Bv:i=k
   ·subst Bv
    simp only[JM,if_true,Act.put];simpa [Array.getD,hk] using hc
   ·have l9 : ¬ (some k=some i):=λ e=>Bv (by simpa using e.symm)
    simp only[JM,if_neg l9,Act.put];have:(a.tmps.setIfInBounds k u).getD i undef=a.tmps.getD i undef:=by
     simp [Array.getElem?_setIfInBounds_ne (Ne.symm Bv)]
    rw[this];exact he.cv (h.tm i)
 ·cases d<;>simp [Act.put,h.size]
 ·cases d<;>simpa [Act.put] using h.defers
theorem FM.says {T:Nat->AV} {m:M} {a:Act} (h:FM B S w0 m0 N T m a):CT B S m (EC T) a.eval:=AfG (λ_=>rfl) (λ_=>rfl) h.tm
theorem Agw {T:Nat->AV} {m:M} {a:Act} (h:FM B S w0 m0 N T m a) {ops:Array Oper} {o:Oper} {g':Option (Nat × Bool)} (hg:VV ops o.guard g'=true) {g:Bool} (gk:LB T g'=some g):Region.wanted o (yielded ops a.tmps)=g:=by
 unfold Region.wanted;cases Hs:o.guard with
 | none =>
  cases g' with
  | none=>simp [LB]at gk;simp [gk]
  | some _=>simp [VV,Hs]at hg
 | some jw =>
  obtain ⟨j,want⟩:=jw;cases g' with
  | none=>simp [VV,Hs]at hg
  | some tw =>
   obtain ⟨t,Na⟩:=tw;simp only[VV,Hs,Bool.and_eq_true,beq_iff_eq]at hg;obtain ⟨rfl,hg⟩:=hg;split at hg
   ·rename_i oj Em
    have Ha:oj.dst=some t:=by simpa using hg
    have u6:=h.tm t;simp only[LB]at gk;unfold yielded;simp only[Em,Option.bind_some,Ha];split at gk
    ·rename_i b hb
     rw[hb]at u6;have hv:=RI u6;have m9:a.tmps[t]? = some (.bool b):=by
      cases ht:a.tmps[t]? with
      | none=>simp [ht,undef]at hv
      | some x=>simp [ht]at hv;rw[hv]
     simp only[m9];simp at gk;rw[<-gk];cases b<;>cases want<;>rfl
    ·rename_i hb
     rw[hb]at u6;obtain ⟨vs,hv,hl,_⟩:=aW u6;have:vs=[]:=List.eq_nil_of_length_eq_zero (by simpa using hl.symm)
     subst this;simp at gk;subst gk;cases ht:a.tmps[t]? with
     | none=>rfl
     | some x =>
      simp [ht]at hv;subst hv;rfl
    ·cases gk
   ·cases hg
theorem vE (hC:G6 P num C) {ops:Array Oper} {i:Nat} {o:Oper} {ai:AI} (hi:ops[i]? = some o) (j6:YL P num N ops o ai=true) {T:Nat->AV} {m:M} {a:Act} (hf:FM B S w0 m0 N T m a) {g:Bool} (hg:LB T ai.guard=some g) {E:CG}
  (hE:g=true->e8 C ai.c4 (EC T) m.own ai.op=some E) {K:Act->World->Prop} (hK : ∀ m' a',m'.own=(if g then E.v7 m.own else m.own)->FM B S w0 m0 N (JM T ai.dst (if g then E.valOf m.own else .g8 [])) m' a'->K a' m'.w):wpOp P ops Q i K a m.w:=by
 simp only[YL,Bool.and_eq_true,beq_iff_eq]at j6;obtain ⟨⟨⟨h1,h2⟩,h3⟩,h4⟩:=j6;have hd : ∀ k,o.dst=some k->k<N:=λ k hk=>by
  rw[h1]at hk;rw[hk]at h2;simpa using h2
 unfold wpOp;simp only[hi,Agw hf h3 hg];cases g with
 | true =>
  simp only[if_true];refine .inl (Rc hC hf.mem hf.says h4 (hE rfl) K Q λ u m' j8 iv ct u6 => ?_);refine hK m' _ (by simpa using j8) ?_;rw[<-h1];exact hf.put o.dst hd iv ct u6
 | false =>
  simp only[Bool.false_eq_true,if_false];refine hK m _ (by simp) ?_;rw[<-h1];exact hf.put o.dst hd hf.mem (DG.refl m) qO
theorem uA {o:AI} {st j7:St} (h:CZ C o st=some j7) : ∃ g E,LB (g6 st.tm) o.guard=some g/\(g=true->e8 C o.c4 (EC (g6 st.tm)) st.own o.op=some E)/\g6 j7.tm=JM (g6 st.tm) o.dst (if g then E.valOf st.own else .g8 [])/\j7.own=(if g then E.v7 st.own else st.own):=by
 unfold CZ at h;rw[Wr]at h;cases hg:LB (g6 st.tm) o.guard with
 | none=>simp [hg]at h
 | some g =>
  cases g with
  | true =>
   simp only[hg,Option.map_eq_some_iff]at h;obtain ⟨E,hE,rfl⟩:=h;rw[mR]at hE;exact ⟨true,E,rfl,λ_=>hE,zC st o.dst E,zB st o.dst E⟩
  | false =>
   simp only[hg,Option.some.injEq]at h;subst h;exact ⟨false,.val .any,rfl,λ h=>(by cases h),mD st o.dst _,mE st o.dst _⟩
theorem VW {ops:Array Oper} : ∀ {os:List Oper} {l:List AI},P0 P num N ops os l=true->os.length=l.length /\ ∀ (i:Nat) (o:Oper) (x:AI),os[i]? = some o->l[i]? = some x->YL P num N ops o x=true
 | [],[],_=>⟨rfl,λ i o x h=>by simp at h⟩
 | o::r,x::l,h=>by
  simp only[P0,Bool.and_eq_true]at h;obtain ⟨h1,h2⟩:=VW h.2;refine ⟨by simp [h1],λ i o' x' ho hx => ?_⟩;cases i with
  | zero=>simp at ho hx;subst ho hx;exact h.1
  | succ i=>exact h2 i o' x' (by simpa using ho) (by simpa using hx)
 | [],_::_,h=>by simp [P0]at h
 | _::_,[],h=>by simp [P0]at h
theorem vF (hC:G6 P num C) {ops:Array Oper} {l:List AI} (j6:P0 P num N ops ops.toList l=true) : ∀ (n k:Nat) (st j7:St) (m:M) (a:Act),n+k=ops.size->C9 C (l.drop k) st=some j7->m.own=st.own->FM B S w0 m0 N (g6 st.tm) m a ->
  (∀ m' a',m'.own=j7.own->FM B S w0 m0 N (g6 j7.tm) m' a'->Q .normal a' m'.w)->wpOps P ops Q (List.range' k n) a m.w
 | 0,k,st,j7,m,a,hk,hs,j8,hf,hQ=>by
  have hl:=(VW j6).1;simp at hl;rw[List.drop_eq_nil_of_le (by omega)]at hs;simp only[C9,Option.some.injEq]at hs;subst hs;simpa [wpOps] using hQ m a j8 hf
 | n+1,k,st,j7,m,a,hk,hs,j8,hf,hQ=>by
  obtain ⟨hl,hg⟩:=VW j6;simp at hl;have xu:k<l.length:=by omega
  have Ld:k<ops.size:=by omega
  rw[List.drop_eq_getElem_cons xu]at hs;simp only[C9]at hs;cases j9:CZ C l[k] st with
  | none=>simp [j9]at hs
  | some A6 =>
   simp only[j9]at hs;obtain ⟨g,E,h1,h2,h3,h4⟩:=uA j9;rw[List.range'_succ,wpOps_cons];have hoi:ops[k]? = some ops[k]:=Array.getElem?_eq_getElem Ld;refine vE hC hoi (hg k ops[k] l[k] (by simp [Ld]) (zE xu)) hf h1 (λ bj=>by rw[j8];exact h2 bj) λ m' a' gn jk => ?_
   refine vF hC j6 n (k+1) A6 j7 m' a' (by omega) hs ?_ ?_ hQ
   ·rw[gn,j8,h4]
   ·rw[j8]at jk
    rw[h3];exact jk
end
end Go.b7

namespace Go.b7
open Go.RowKit
section
variable {T T':Nat->AV} {C:Cl} {c4:List Nat} {own:AH}
theorem DW {x:AP} (h : ∀ t∈C6 x,T t=T' t):EC T x=EC T' x:=by
 cases x with
 | t n=>exact h n (by simp [C6])
 | c v=>rfl
theorem R6 {xs:List AP} (h : ∀ t∈xs.flatMap C6,T t=T' t):xs.map (EC T)=xs.map (EC T') :=
 List.map_congr_left λ x hx=>DW λ t ht=>h t (List.mem_flatMap.2 ⟨x,hx,ht⟩)
theorem rO {x:Option AP} (h : ∀ t∈eT x,T t=T' t) {y:AP} (hy:x=some y):EC T y=EC T' y:=by
 subst hy;exact DW h
theorem Qx {op:DR} (h : ∀ t∈ID op,T t=T' t):e8 C c4 (EC T) own op=e8 C c4 (EC T') own op:=by
 cases op with
 | build z ps =>
  simp only[e8];congr 2;refine List.map_congr_left λ p hp => ?_
  rw[DW (x:=p.2.2) λ t ht=>h t (by simp only[ID];exact List.mem_flatMap.2 ⟨p,hp,ht⟩)]
 | b8 s a9 ps =>
  have hm:ps.mapM (λ x=>cellsOf (EC T x))=ps.mapM (λ x=>cellsOf (EC T' x)):=by
   have e : ∀ l:List AP,(∀ x∈l,EC T x=EC T' x)->l.mapM (λ x=>cellsOf (EC T x))=l.mapM (λ x=>cellsOf (EC T' x)):=by
    intro l;induction l with
    | nil=>intro _;rfl
    | cons x r ih=>intro hl;simp only[List.mapM_cons];rw[hl x (by simp),ih λ y hy=>hl y (by simp [hy])]
   exact e ps λ x hx=>DW λ t ht=>h t (by simp only[ID];exact List.mem_flatMap.2 ⟨x,hx,ht⟩)
  simp only[e8,hm]
 | mm mx xs=>simp only[e8];rw[R6 (xs:=xs) h]
 | call f xs=>simp only[e8];rw[R6 (xs:=xs) h]
 | e9 f xs=>simp only[e8];rw[R6 (xs:=xs) h]
 | nr ne x=>simp only[e8];rw[DW (x:=x) h]
 | bad=>rfl
 | de tb x=>simp only[e8];rw[DW (x:=x) h]
 | ki p f xs =>
  have e : ∀ l:List AP,(∀ x∈l,EC T x=EC T' x)->l.mapM (λ x=>G0 (EC T x))=l.mapM (λ x=>G0 (EC T' x)):=by
   intro l;induction l with
   | nil=>intro _;rfl
   | cons x r ih=>intro hl;simp only[List.mapM_cons];rw[hl x (by simp),ih λ y hy=>hl y (by simp [hy])]
  simp only[e8];rw[e xs λ x hx=>DW λ t ht=>h t (by simp only[ID];exact List.mem_flatMap.2 ⟨x,hx,ht⟩)]
 | l8 f xs=>simp only[e8];rw[R6 (xs:=xs) h]
 | o8 s f xs=>simp only[e8];rw[R6 (xs:=xs) h]
 | z7 s f xs=>simp only[e8];rw[R6 (xs:=xs) h]
 | kj s n x v =>
  simp only[ID,List.mem_append]at h;simp only[e8];rw[DW (x:=x) λ t ht=>h t (.inl ht),DW (x:=v) λ t ht=>h t (.inr ht)]
 | m6 x xs =>
  simp only[ID,List.mem_append]at h;simp only[e8];rw[DW (x:=x) λ t ht=>h t (.inl ht),R6 (xs:=xs) λ t ht=>h t (.inr ht)]
 | bz a9 x lo hi =>
  simp only[ID,List.mem_append]at h;have hx:EC T x=EC T' x:=DW λ t ht=>h t (.inl (.inl ht))
  have kb : ∀ y,lo=some y->EC T y=EC T' y:=λ y hy=>rO (λ t ht=>h t (.inl (.inr ht))) hy
  have Eh : ∀ y,hi=some y->EC T y=EC T' y:=λ y hy=>rO (λ t ht=>h t (.inr ht)) hy
  simp only[e8,hx];cases lo with
  | none=>cases hi with
   | none=>rfl
   | some y=>simp only[Eh y rfl]
  | some z=>cases hi with
   | none=>simp only[kb z rfl]
   | some y=>simp only[kb z rfl,Eh y rfl]
 | x8=>rfl
 | alloc=>rfl
 | a8 x=>simp only[e8];rw[DW (x:=x) h]
 | un f x=>simp only[e8];rw[DW (x:=x) h]
 | conv k x=>simp only[e8];rw[DW (x:=x) h]
 | box s x=>simp only[e8];rw[DW (x:=x) h]
 | a5 x off=>simp only[e8];rw[DW (x:=x) h]
 | jy x off n agg=>simp only[e8];rw[DW (x:=x) h]
 | ld agg n x=>simp only[e8];rw[DW (x:=x) h]
 | ext x i=>simp only[e8];rw[DW (x:=x) h]
 | len x=>simp only[e8];rw[DW (x:=x) h]
 | pick c x y =>
  simp only[ID,List.mem_append]at h;simp only[e8];rw[DW (x:=c) λ t ht=>h t (.inl (.inl ht)),DW (x:=x) λ t ht=>h t (.inl (.inr ht)),DW (x:=y) λ t ht=>h t (.inr ht)]
 | bin f x y =>
  simp only[ID,List.mem_append]at h;simp only[e8];rw[DW (x:=x) λ t ht=>h t (.inl ht),DW (x:=y) λ t ht=>h t (.inr ht)]
 | beq ne x y =>
  simp only[ID,List.mem_append]at h;simp only[e8];rw[DW (x:=x) λ t ht=>h t (.inl ht),DW (x:=y) λ t ht=>h t (.inr ht)]
 | a7 arr a9 x i =>
  simp only[ID,List.mem_append]at h;simp only[e8];rw[DW (x:=x) λ t ht=>h t (.inl ht),DW (x:=i) λ t ht=>h t (.inr ht)]
 | st n x v =>
  simp only[ID,List.mem_append]at h;simp only[e8];rw[DW (x:=x) λ t ht=>h t (.inl ht),DW (x:=v) λ t ht=>h t (.inr ht)]
 | mk s a9 bytes z l c =>
  simp only[ID,List.mem_append]at h;simp only[e8];rw[DW (x:=l) λ t ht=>h t (.inl ht),DW (x:=c) λ t ht=>h t (.inr ht)]
 | app s a9 bytes x y =>
  simp only[ID,List.mem_append]at h;simp only[e8];rw[DW (x:=x) λ t ht=>h t (.inl ht),DW (x:=y) λ t ht=>h t (.inr ht)]
theorem pC (o:AH) (l:List Nat) (s:Nat):o.m5 l s=if s∈l then ⟨0,λ_=>none⟩ else o s:=by
 induction l with
 | nil=>simp [AH.m5]
 | cons x r ih =>
  simp only[AH.m5,List.mem_cons];by_cases h:s=x
  ·simp [h]
  ·rw[if_neg h,ih]
   simp [h]
theorem Vp {o o':AH} {l:List Nat} (h : ∀ s,s ∉ l->o s=o' s):o.m5 l=o'.m5 l:=by
 funext s
 rw[pC,pC];split
 ·rfl
 ·rename_i hs;exact h s hs
end
section
variable {ops:Array Oper}
def inner (acc:Array Nat) (o:Oper):Nat:=o.after.foldl (λ s e=>if Region.binds .any e then s ||| 2^e.on ||| acc.getD e.on 0 else s) 0
theorem Vs (acc:Array Nat) (o:Oper) (j:Nat) (h:(inner acc o).testBit j=true) : ∃ e∈o.after,Region.binds .any e=true/\(e.on=j\/(acc.getD e.on 0).testBit j=true):=by
 unfold inner at h;rw[<-Array.foldl_toList]at h;have key : ∀ (l:List Edge) (s:Nat),(l.foldl (λ s e=>if Region.binds .any e then s ||| 2^e.on ||| acc.getD e.on 0 else s) s).testBit j=true->s.testBit j=true \/ ∃ e∈l,Region.binds .any e=true/\(e.on=j\/(acc.getD e.on 0).testBit j=true):=by
  intro l;induction l with
  | nil=>intro s hs;exact .inl hs
  | cons e r ih =>
   intro s hs;simp only[List.foldl_cons]at hs;rcases ih _ hs with h1|⟨e',cr,h2⟩
   ·by_cases hb:Region.binds .any e=true
    ·simp only[hb,if_true,Nat.testBit_or,Bool.or_eq_true,Nat.testBit_two_pow,decide_eq_true_eq]at h1
     rcases h1 with (h1|h1)|h1
     ·exact .inl h1
     ·exact .inr ⟨e,by simp,hb,.inl h1⟩
     ·exact .inr ⟨e,by simp,hb,.inr h1⟩
    ·simp only[hb,Bool.false_eq_true,if_false]at h1
     exact .inl h1
   ·exact .inr ⟨e',by simp [cr],h2⟩
 rcases key _ _ h with h|⟨e,he,h⟩
 ·simp at h
 ·exact ⟨e,by simpa using he,h⟩
theorem zG (i j:Nat) (h:((Region.before ops).getD i 0).testBit j=true) : ∃ o,ops[i]? = some o /\ ∃ e∈o.after,Region.binds .any e=true/\(e.on=j\/(e.on<i/\((Region.before ops).getD e.on 0).testBit j=true)):=by
 have key : ∀ (rest:List Oper) (done:List Oper) (acc:Array Nat),acc.size=done.length ->
   (∀ i j,(acc.getD i 0).testBit j=true -> ∃ o,done[i]? = some o /\ ∃ e∈o.after,Region.binds .any e=true/\(e.on=j\/(e.on<i/\(acc.getD e.on 0).testBit j=true))) ->
   ∀ i j,((rest.foldl (λ acc o=>acc.push (inner acc o)) acc).getD i 0).testBit j=true -> ∃ o,(done++rest)[i]? = some o /\ ∃ e∈o.after,Region.binds .any e=true/\(e.on=j\/(e.on<i/\((rest.foldl (λ acc o=>acc.push (inner acc o)) acc).getD e.on 0).testBit j=true)):=by
  intro rest;induction rest with
  | nil=>intro done acc hs hinv i j hj;simpa using hinv i j hj
  | cons o r ih =>
   intro done acc hs hinv i j hj;simp only[List.foldl_cons]at hj ⊢;have:=ih (done++[o]) (acc.push (inner acc o)) (by simp [hs]) (λ i j uw => ?_) i j hj
   ·simpa using this
   ·have m9 : ∀ k,k<acc.size->(acc.push (inner acc o)).getD k 0=acc.getD k 0:=λ k hk=>by
     simp [Array.getD,hk,Nat.lt_succ_of_lt hk,Array.getElem_push_lt hk]
    by_cases hi:i<acc.size
    ·rw[m9 i hi]at uw
     obtain ⟨o',tk,e,he,hb,bk⟩:=hinv i j uw;refine ⟨o',by rw[List.getElem?_append_left (by omega)];exact tk,e,he,hb,bk.imp id λ⟨h1,h2⟩=>⟨h1,by rw[m9 e.on (by omega)];exact h2⟩⟩
    ·have Hk:i=acc.size:=by
      rcases Nat.lt_or_ge i (acc.push (inner acc o)).size with h1|h1
      ·simp at h1;omega
      ·have:(acc.push (inner acc o)).getD i 0=0:=by simp [Array.getD];intro h2;simp at h1;omega
       rw[this]at uw;simp at uw
     subst Hk;have ew:(acc.push (inner acc o)).getD acc.size 0=inner acc o:=by simp [Array.getD]
     rw[ew]at uw;obtain ⟨e,he,hb,bk⟩:=Vs acc o j uw;refine ⟨o,by rw[hs];simp,e,he,hb,bk.imp id λ h2 => ?_⟩;have k6:e.on<acc.size:=by
      rcases Nat.lt_or_ge e.on acc.size with h3|h3
      ·exact h3
      ·have:acc.getD e.on 0=0:=by simp [Array.getD];omega
       rw[this]at h2;simp at h2
     exact ⟨k6,by rw[m9 e.on k6];exact h2⟩
 have hb:Region.before ops=ops.toList.foldl (λ acc o=>acc.push (inner acc o)) #[]:=by
  unfold Region.before;rw[<-Array.foldl_toList];rfl
 rw[hb]at h ⊢;have:=key ops.toList [] #[] rfl (λ i j uw=>by simp at uw) i j h
 simpa using this
def SV (ops:Array Oper) (X:Nat->Bool):Prop := ∀ j o,X j=true->ops[j]? = some o -> ∀ e∈o.after,Region.binds .any e=true->X e.on=true
theorem Jm {X:Nat->Bool} (hX:SV ops X) : ∀ (i:Nat),(∀ o,ops[i]? = some o -> ∀ e∈o.after,Region.binds .any e=true->X e.on=true) -> ∀ j,((Region.before ops).getD i 0).testBit j=true->X j=true:=by
 intro i;induction i using Nat.strongRecOn with
 | ind i ih =>
  intro hi j hj;obtain ⟨o,ho,e,he,hb,bk⟩:=zG i j hj;have hx:=hi o ho e he hb;rcases bk with h|⟨k6,h⟩
  ·rw[<-h];exact hx
  ·exact ih e.on k6 (λ o' tk e' cr k7=>hX e.on o' hx tk e' cr k7) j h
theorem Yo {X:Nat->Bool} (hX:SV ops X) {i j:Nat} (hi : ∀ o,ops[i]? = some o -> ∀ e∈o.after,Region.binds .any e=true->X e.on=true) (k6:j<i) (h:IU (Region.before ops) i j=true):X j=true:=by
 unfold IU at h;rw[Nat.max_eq_left (by omega),Nat.min_eq_right (by omega)]at h;exact Jm hX i hi j h
theorem rR {X:Nat->Bool} (hX:SV ops X) {i j:Nat} (hj:X j=true) (k6:i<j) (h:IU (Region.before ops) i j=true):X i=true:=by
 unfold IU at h;rw[Nat.max_eq_right (by omega),Nat.min_eq_left (by omega)]at h;exact Jm hX j (λ o ho e he hb=>hX j o hj ho e he hb) i h
end
section
variable {C:Cl}
abbrev D:=(Nat->AV) × AH
structure DS where
 d:Option Nat
 g:Bool
 E:CG
 v:AV
def DS.own (r:DS) (o:AH):AH:=if r.g then r.E.v7 o else o
def DS.act (r:DS) (x:D):D:=(JM x.1 r.d r.v,r.own x.2)
structure SX (C:Cl) (x:AI) (r:DS) (s s':St):Prop where
 d:r.d=x.dst
 g:LB (g6 s.tm) x.guard=some r.g
 E:r.g=true->e8 C x.c4 (EC (g6 s.tm)) s.own x.op=some r.E
 v:r.v=(if r.g then r.E.valOf s.own else .g8 [])
 act:(g6 s'.tm,s'.own)=r.act (g6 s.tm,s.own)
theorem trace : ∀ {l:List AI} {st j7:St},C9 C l st=some j7 -> ∃ (σ:Nat->St) (rs:List DS),σ 0=st/\σ l.length=j7/\rs.length=l.length /\ ∀ (k:Nat) (x:AI) (r:DS),l[k]? = some x->rs[k]? = some r->SX C x r (σ k) (σ (k+1))
 | [],st,j7,h=>by
  simp only[C9,Option.some.injEq]at h;subst h;exact ⟨λ_=>st,[],rfl,rfl,rfl,λ k x r hx=>by simp at hx⟩
 | o::q,st,j7,h=>by
  simp only[C9]at h;cases hs:CZ C o st with
  | none=>simp [hs]at h
  | some A6 =>
   simp only[hs]at h;obtain ⟨σ,rs,h0,h1,hl,h2⟩:=trace h;obtain ⟨g,E,e1,e2,e3,e4⟩:=uA hs;refine ⟨λ k=>match k with|0=>st|k+1=>σ k,⟨o.dst,g,E,if g then E.valOf st.own else .g8 []⟩::rs,rfl,h1,by simp [hl],λ k x r hx hr => ?_⟩;cases k with
   | zero =>
    simp at hx hr;subst hx hr;refine ⟨rfl,e1,e2,rfl,?_⟩;show (g6 (σ 0).tm,(σ 0).own)=_;rw[h0,e3,e4];rfl
   | succ k=>exact h2 k x r (by simpa using hx) (by simpa using hr)
def DL (X:Nat->Bool):List DS->Nat->D->D
 | [],_,x=>x
 | r::rs,k,x=>DL X rs (k+1) (if X k then r.act x else x)
theorem cS (X:Nat->Bool) : ∀ (l l':List DS) (k:Nat) (x:D),DL X (l++l') k x=DL X l' (k+l.length) (DL X l k x)
 | [],l',k,x=>by simp [DL]
 | r::rs,l',k,x=>by
  simp only[List.cons_append,DL,List.length_cons];rw[cS X rs l' (k+1)];congr 1;omega
theorem oM {X Y:Nat->Bool} {t:Nat} : ∀ (l:List DS) (k:Nat) (x y:D),x.1 t=y.1 t->(∀ i r,l[i]? = some r->r.d=some t->X (k+i)=Y (k+i))->(DL X l k x).1 t=(DL Y l k y).1 t
 | [],k,x,y,h,_=>h
 | r::rs,k,x,y,h,ox=>by
  simp only[DL];refine oM rs (k+1) _ _ ?_ λ i r' hr hd=>by
   have:=ox (i+1) r' (by simpa using hr) hd
   rw[show k+1+i=k+(i+1) by omega];exact this
  by_cases hd:r.d=some t
  ·have hx:X k=Y k:=by simpa using ox 0 r rfl hd
   rw[hx];cases Y k
   ·simpa using h
   ·simp [DS.act,JM,hd]
  ·have e1 : ∀ z:D,(r.act z).1 t=z.1 t:=λ z=>by simp [DS.act,JM,hd]
   cases X k<;>cases Y k<;>simp [e1,h]
theorem Yp (E:CG) (s:Nat) (o o':AH) (h:o s=o' s):E.v7 o s=E.v7 o' s:=by
 cases E with
 | val v=>exact h
 | new s' b v =>
  simp only[CG.v7,AH.put];by_cases hs:s=s'
  ·subst hs;simp [h]
  ·simp [hs,h]
 | uf s' b v =>
  simp only[CG.v7,AH.put];by_cases hs:s=s'
  ·subst hs;simp [h]
  ·simp [hs,h]
 | al v o2=>rfl
 | rz s' x v =>
  simp only[CG.v7,AH.put];by_cases hs:s=s'
  ·simp [hs]
  ·simp [hs,h]
 | n9 s' x =>
  simp only[CG.v7,AH.put];by_cases hs:s=s'
  ·simp [hs]
  ·simp [hs,h]
theorem oL {X Y:Nat->Bool} {s:Nat} : ∀ (l:List DS) (k:Nat) (x y:D),x.2 s=y.2 s->(∀ i r,l[i]? = some r->X (k+i)=Y (k+i) \/ ∀ o,r.own o s=o s)->(DL X l k x).2 s=(DL Y l k y).2 s
 | [],k,x,y,h,_=>h
 | r::rs,k,x,y,h,ox=>by
  simp only[DL];refine oL rs (k+1) _ _ ?_ λ i r' hr=>by
   have:=ox (i+1) r' (by simpa using hr)
   rw[show k+1+i=k+(i+1) by omega];exact this
  rcases ox 0 r rfl with hx|hx
  ·simp only[Nat.add_zero]at hx
   rw[hx];cases Y k
   ·simpa using h
   ·simp only[if_true,DS.act,DS.own]
    cases r.g
    ·simpa using h
    ·simpa using Yp r.E s _ _ h
  ·have e1 : ∀ z:D,(r.act z).2 s=z.2 s:=λ z=>hx z.2
   cases X k<;>cases Y k<;>simp [e1,h]
theorem cT {X:Nat->Bool} (q:DS) : ∀ (l:List DS) (k:Nat) (x:D),(∀ i r,l[i]? = some r->X (k+i)=true -> ∀ z,r.act (q.act z)=q.act (r.act z))->DL X l k (q.act x)=q.act (DL X l k x)
 | [],k,x,_=>rfl
 | r::rs,k,x,h=>by
  simp only[DL];have aq : ∀ i r',rs[i]? = some r'->X (k+1+i)=true -> ∀ z,r'.act (q.act z)=q.act (r'.act z):=λ i r' hr hX=>h (i+1) r' (by simpa using hr) (by rw[show k+(i+1)=k+1+i by omega];exact hX)
  cases hk:X k
  ·simp only[Bool.false_eq_true,if_false]
   exact cT q rs (k+1) x aq
  ·simp only[if_true]
   rw[h 0 r rfl (by simpa using hk)];exact cT q rs (k+1) _ aq
theorem X2 {X Y:Nat->Bool} : ∀ (l:List DS) (k:Nat) (x:D),(∀ i,i<l.length->X (k+i)=Y (k+i))->DL X l k x=DL Y l k x
 | [],_,_,_=>rfl
 | r::rs,k,x,h=>by
  simp only[DL];rw[show X k=Y k by simpa using h 0 (by simp)];exact X2 rs (k+1) _ λ i hi=>by
   have:=h (i+1) (by simpa using hi)
   rw[show k+1+i=k+(i+1) by omega];exact this
theorem oK {X X':Nat->Bool} {l:List DS} {i:Nat} {q:DS} (hq:l[i]? = some q) (im:X i=false) (qz : ∀ j,X' j=(decide (j=i)||X j)) (x:D) (Bi : ∀ j r,l[j]? = some r->i<j->X j=true -> ∀ z,r.act (q.act z)=q.act (r.act z)) :
  DL X' l 0 x=q.act (DL X l 0 x):=by
 have dw:i<l.length:=(zS hq).1;have hli:l=l.take i++(q::l.drop (i+1)):=by
  have:l.drop i=q::l.drop (i+1):=by
   rw[List.drop_eq_getElem_cons dw];congr 1;have:=(zS hq).2
   exact this
  rw[<-this,List.take_append_drop]
 have ft:(l.take i).length=i:=by simp;omega
 rw[hli,cS,cS,ft,Nat.zero_add];simp only[DL,im,Bool.false_eq_true,if_false];rw[show X' i=true by rw[qz];simp];simp only[if_true];rw[X2 (X:=X') (Y:=X) (l.take i) 0 x (λ j hj=>by rw[qz];simp;omega)];rw[X2 (X:=X') (Y:=X) (l.drop (i+1)) (i+1) _ (λ j hj=>by rw[qz];simp;omega)];refine cT q _ _ _ λ j r hr Gi => ?_
 rw[List.getElem?_drop]at hr;exact Bi (i+1+j) r hr (by omega) Gi
end
end Go.b7
