/-
  Loads, stores, make, slice expressions and the small ones.
-/
import Derived.Test.YtplhdlbnneoobaaGreatB3
import Derived.Laws.Slices
import Derived.Orders
set_option linter.unusedSimpArgs false
set_option linter.unusedVariables false
set_option linter.unnecessarySimpa false
namespace Go.c6
open Go.RowKit
section
variable {B:Nat} {S:Nat->Prop} {w0:World} {m:M}
variable {P:Program} {num:Nat->Nat} {o:Oper} {a:Act} {ρ:AU->AV}
theorem nB (t:TypeId) (agg:Bool) (n:Nat) (fx : ∀ w,(isAgg t).run P w = .ok agg w) (hn:if agg then ∃ i,P.info? t=some i/\i.size=n else n=1) (ad:Addr) (vs:List Value) (hl:vs.length=n) (w:World)
  (hc : ∀ q v,vs[q]? = some v->w.cell? (ad.add q)=some v):(Instr.loadAt t (.pointer (some ad))).run P w = .ok (if agg then .agg vs.toArray else vs.getD 0 undef) w:=by
 unfold Instr.loadAt loadVar;simp only[Instr.sureAddr,Sem.run_bind,Sem.run_pure,Result.andThen_ok,fx w];cases agg with
 | true =>
  simp only[if_true]at hn;obtain ⟨i,hi,hs⟩:=hn;have:=run_loadCells_list (P:=P) w ad vs hc
  simp [sizeOf,typeInfo,hi,hs,<-hl,this]
 | false =>
  simp only[Bool.false_eq_true,if_false]at hn ⊢;have j9:0<vs.length:=by omega
  have h0:=hc 0 vs[0] (zE j9);have tv:w.cell? ad=some vs[0]:=by simpa [Addr.add] using h0
  simp [load,Sem.run,tv,j9]
theorem Nw (hm:BR B S w0 m) {s t i j n:Nat} {cs:List AV} (h:m.own.nc s t i j n=some cs) : ∃ b g arr e,m.own.get s t=some b/\(0<n->m.ν s t=some g/\m.w.heap[g]? = some (.cells arr e (0,0))) /\
  ∃ vs:List Value,vs.length=n/\CL B S m cs vs /\ ∀ q v,vs[q]? = some v->arr[i*b.b8+j+q]? = some v:=by
 unfold AJ.nc at h;cases hb:m.own.get s t with
 | none=>simp [hb]at h
 | some b =>
  simp only[hb]at h;cases he:b.es[i]? with
  | none=>simp [he]at h
  | some ds =>
   simp only[he,part]at h;split at h
   ·rename_i hle
    obtain rfl:(ds.drop j).take n=cs:=by simpa using h
    obtain ⟨hz,bu⟩:=hm.e8 s t b hb;cases hν:m.ν s t with
    | none =>
     rw[hν]at bu;rw[bu]at he;simp at he
    | some g =>
     rw[hν]at bu;obtain ⟨hB,arr,e,hh,x8⟩:=bu;have v7 : ∀ q,q<n -> ∃ u,arr[i*b.b8+j+q]? = some u:=λ q hq=>by
      have j9:j+q<ds.length:=by omega
      obtain ⟨u,hu,_⟩:=x8 i ds he (j+q) ds[j+q] (zE j9);exact ⟨u,by rw[<-hu];congr 1;omega⟩
     refine ⟨b,g,arr,e,rfl,λ_=>⟨rfl,hh⟩,(arr.toList.drop (i*b.b8+j)).take n,?_,⟨?_,?_⟩,?_⟩
     ·rw[List.length_take,List.length_drop]
      rcases Nat.eq_zero_or_pos n with h0|h0
      ·omega
      ·obtain ⟨u,hu⟩:=v7 (n-1) (by omega)
       have:=(Array.getElem?_eq_some_iff.1 hu).1
       simp;omega
     ·rw[List.length_take,List.length_take,List.length_drop,List.length_drop]
      rcases Nat.eq_zero_or_pos n with h0|h0
      ·omega
      ·obtain ⟨u,hu⟩:=v7 (n-1) (by omega)
       have:=(Array.getElem?_eq_some_iff.1 hu).1
       simp;omega
     ·intro q c v hq hv
      rw[List.getElem?_take]at hq hv;split at hq
      ·rename_i Dt
       rw[if_pos Dt]at hv;rw[List.getElem?_drop]at hq hv;obtain ⟨u,hu,hc⟩:=x8 i ds he (j+q) c hq;have:some u=some v:=by
        rw[<-hu,<-hv];simp only[Array.getElem?_toList];congr 1;omega
       obtain rfl:u=v:=by simpa using this
       exact hc
      ·cases hq
     ·intro q v hv
      rw[List.getElem?_take]at hv;split at hv
      ·rw[List.getElem?_drop]at hv
       simpa using hv
      ·cases hv
   ·cases h
theorem bJ {w:World} {g p:Nat} {arr:Array Value} {e:TypeId} (h:w.heap[g]? = some (.cells arr e (0,0))):w.cell? ⟨g,p,none⟩=arr[p]? := by
 simp [World.cell?,h]
theorem AfA (hm:BR B S w0 m) (hs:CU B S m ρ a.eval) {agg:Bool} {n:Nat} {x':AU} (h:BD P num o.op (.ld agg n x')=true) {s t i j:Nat} {cs:List AV} {v:AV} (hx:ρ x' = .ptr s t i j) (hl:m.own.nc s t i j n=some cs) (hv:LQ agg cs=some v) :
  CY B S w0 P o a m (.val v):=by
 obtain ⟨ty,x,k9,h1,fx,hn⟩:=xS h;obtain ⟨ad,al,ht,hb⟩:=YC (hx ▸ hs x x' h1);obtain ⟨b,g,arr,e,n7,hg,vs,gp,n6,de⟩:=Nw hm hl;obtain ⟨v9,_⟩:=dL hv n6;refine FC hm ?_ v9;simp only[execOp,k9,Sem.run_bind,al];rw[nB ty agg n fx hn ad vs gp m.w (λ q u hq => ?_)]
 ·rfl
 ·have j9:q<vs.length:=(zS hq).1
  obtain ⟨yp,iu⟩:=hg (by omega);obtain ⟨g',cq,rfl⟩:=hb b n7;obtain rfl:g=g':=by rw[yp]at cq;simpa using cq
  rw[IK,bJ iu];exact de q u hq
theorem Afz (hm:BR B S w0 m) (hs:CU B S m ρ a.eval) {agg:Bool} {n:Nat} {x':AU} (h:BD P num o.op (.ld agg n x')=true) {cs ds:List AV} {v:AV} (hx:ρ x' = .u6 cs) (hl:part cs 0 n=some ds) (hv:LQ agg ds=some v) :
  CY B S w0 P o a m (.val v):=by
 obtain ⟨ty,x,k9,h1,fx,hn⟩:=xS h;obtain ⟨b,ob,u,l,al,hR,hc,hr⟩:=iQ (hx ▸ hs x x' h1);unfold c6.part at hl;split at hl
 ·rename_i hle
  obtain rfl:(cs.drop 0).take n=ds:=by simpa using hl
  have n6:CL B S m ((cs.drop 0).take n) ((List.range n).map u):=by
   refine ⟨by simp;omega,λ q c v' hq fc => ?_⟩;simp only[List.drop_zero,List.getElem?_take]at hq;split at hq
   ·rename_i Dt
    simp [Dt]at fc;subst fc;exact .rd (hr q c hq)
   ·cases hq
  obtain ⟨v9,_⟩:=dL hv n6;refine FC hm ?_ v9;simp only[execOp,k9,Sem.run_bind,al];rw[nB ty agg n fx hn ⟨b,ob,none⟩ ((List.range n).map u) (by simp) m.w (λ q w' hq => ?_)]
  ·rfl
  ·have Dt:q<n:=by have:=(zS hq).1;simpa using this
   simp [Dt]at hq;subst hq;rw[IK];exact hc q cs[q] (zE (by omega))
 ·cases hl
theorem nQ {α:Type} (l:List α) (off:Nat) (vs:List α) (h:off+vs.length<=l.length) (q:Nat):(l.take off++vs++l.drop (off+vs.length))[q]? = if q<off then l[q]? else if q<off+vs.length then vs[q-off]? else l[q]? := by
 rw[List.append_assoc];by_cases h1:q<off
 ·rw[if_pos h1,List.getElem?_append_left (by simp;omega),List.getElem?_take,if_pos h1]
 ·rw[if_neg h1,List.getElem?_append_right (by simp;omega)]
  have e1:(l.take off).length=off:=by simp;omega
  rw[e1];by_cases h2:q<off+vs.length
  ·rw[if_pos h2,List.getElem?_append_left (by omega)]
  ·rw[if_neg h2,List.getElem?_append_right (by omega),List.getElem?_drop]
   congr 1;omega
theorem qH (hm:BR B S w0 m) {g:Nat} (hB:B<=g) (arr:Array Value):Below B w0 (m.w.setRow g arr) :=
 hm.below.trans ⟨rfl,rfl,rfl,by simp,λ k hk=>setRow_other _ _ _ _ (by omega)⟩
theorem sO (hm:BR B S w0 m) (hs:CU B S m ρ a.eval) {n:Nat} {x' v':AU} (h:BD P num o.op (.st n x' v')=true) {s t i j:Nat} {vs:List AV} {l8:AJ} (hx:ρ x' = .ptr s t i j) (hv:cellsOf (ρ v')=some vs) (hn:vs.length=n) (k7:m.own.jm s t i j vs=some l8) :
  CY B S w0 P o a m (.bn (.g8 []) l8):=by
 obtain ⟨ty,x,v,inf,k9,h1,h2,hi,v7⟩:=AiD h;obtain ⟨ad,al,ht,hb⟩:=YC (hx ▸ hs x x' h1);have n6:=bT (hs v v' h2) hv;unfold AJ.jm at k7;cases n7:m.own.get s t with
 | none=>simp [n7]at k7
 | some b =>
  simp only[n7]at k7;cases he:b.es[i]? with
  | none=>simp [he]at k7
  | some cs =>
   simp only[he]at k7;split at k7
   ·rename_i hle
    obtain rfl:=Option.some.inj k7;obtain ⟨hz,bu⟩:=hm.e8 s t b n7;obtain ⟨g,hg,rfl⟩:=hb b n7;rw[hg]at bu;obtain ⟨hB,arr,e,hh,x8⟩:=bu;have Jo:cs.length=b.b8:=hz cs (zM he);have hlen:(a.eval v).cells.toList.length=vs.length:=n6.1.symm;have ft:i<b.es.length:=(zS he).1;have zd:i*b.b8+j+vs.length<=arr.size:=by
     rcases Nat.eq_zero_or_pos vs.length with h0|h0
     ·rcases Nat.eq_zero_or_pos j with Di|Di
      ·rw[h0,Di]
       rcases Nat.eq_zero_or_pos i with nv|nv
       ·rw[nv];omega
       ·rcases Nat.eq_zero_or_pos b.b8 with bk|bk
        ·rw[bk];omega
        ·have Ts:i-1<b.es.length:=by omega
         have dj:(b.es[i-1]).length=b.b8:=hz _ (List.getElem_mem Ts);obtain ⟨u,hu,_⟩:=x8 (i-1) _ (zE Ts) (b.b8-1) _ (zE (by omega));have:=(Array.getElem?_eq_some_iff.1 hu).1
         have e1:(i-1)*b.b8+b.b8=i*b.b8:=by
          rw[<-Nat.succ_mul];congr 1;omega
         omega
      ·obtain ⟨u,hu,_⟩:=x8 i cs he (j-1) cs[j-1] (zE (by omega))
       have:=(Array.getElem?_eq_some_iff.1 hu).1
       omega
     ·obtain ⟨u,hu,_⟩:=x8 i cs he (j+vs.length-1) cs[j+vs.length-1] (zE (by omega))
      have:=(Array.getElem?_eq_some_iff.1 hu).1
      omega
    have jf:=Aeg n6;have sd:=run_storeCells_at (P:=P) g (i*b.b8+j) e (a.eval v).cells.toList 0 arr m.w hh (by rw[hlen];omega) jf;generalize ka:(arr.toList.take (i*b.b8+j+0)++(a.eval v).cells.toList++arr.toList.drop (i*b.b8+j+0+(a.eval v).cells.toList.length)).toArray=v3 at sd;have vt : ∀ p,v3[p]? = if p<i*b.b8+j then arr[p]? else if p<i*b.b8+j+vs.length then (a.eval v).cells.toList[p-(i*b.b8+j)]? else arr[p]? := λ p=>by
     rw[<-ka];simp only[Nat.add_zero,List.getElem?_toArray];rw[nQ _ _ _ (by rw[hlen];simpa using zd),hlen];simp only[Array.getElem?_toList]
    have mw:v3.size=arr.size:=by
     rw[<-ka];simp [hlen];have:=hlen
     simp at this;omega
    obtain ⟨k1,k2⟩:=Aly hm s t b ⟨b.b8,b.es.set i (splice cs j vs)⟩ n7 g hg arr v3 e hh rfl (λ y hy=>by
      rcases List.mem_or_eq_of_mem_set hy with hy|hy
      ·exact hz y hy
      ·rw[hy,<-Jo];simp [splice];omega) mw
     (λ i' cn o6 q c hq=>by
      show ∃ u,v3[i'*b.b8+q]? = some u/\_;change (b.es.set i (splice cs j vs))[i']? = some cn at o6;by_cases Tt:i'=i
      ·subst Tt
       rw[List.getElem?_set_self ft]at o6;obtain rfl:splice cs j vs=cn:=by simpa using o6
       unfold splice at hq;rw[nQ _ _ _ hle]at hq;rw[vt];by_cases wo:q<j
       ·rw[if_pos wo]at hq
        rw[if_pos (by omega)];exact x8 i' cs he q c hq
       ·rw[if_neg wo]at hq
        rw[if_neg (by omega)];by_cases Av:q<j+vs.length
        ·rw[if_pos Av]at hq
         rw[if_pos (by omega)];obtain ⟨u,hu,dh⟩:=V6 n6 hq;exact ⟨u,by rw[<-hu];congr 1;omega,dh⟩
        ·rw[if_neg Av]at hq
         rw[if_neg (by omega)];exact x8 i' cs he q c hq
      ·rw[List.getElem?_set_ne (by omega)]at o6
       have Kr:q<b.b8:=by
        rw[<-hz cn (zM o6)];exact (zS hq).1
       obtain ⟨u,hu,dh⟩:=x8 i' cn o6 q c hq;refine ⟨u,?_,dh⟩;rw[vt,<-hu];rcases Nat.lt_or_gt_of_ne Tt with j9|lz
       ·have:(i'+1)*b.b8<=i*b.b8:=zR _ j9
        rw[Nat.succ_mul]at this;rw[if_pos (by omega)]
       ·have:(i+1)*b.b8<=i'*b.b8:=zR _ lz
        rw[Nat.succ_mul]at this;rw[if_neg (by omega),if_neg (by omega)])
     (m.w.setRow g v3) (qH hm hB v3) (by simp) (λ k hk=>setRow_other _ _ _ _ hk) (setRow_heap _ _ _ _ _ _ hh)
    intro K Q hK;refine AlL (w':=m.w.setRow g v3) ?_ (hK undef ⟨m.ν,_,m.w.setRow g v3⟩ rfl k1 k2 zA);have Lf:(a.eval v).cells.size=inf.size:=by rw[v7,<-hn,<-hlen];simp
    simp only[execOp,k9,al,Instr.storeAt,storeVar,Instr.sureAddr,Sem.run_bind,Sem.run_pure,Result.andThen_ok,sizeOf,typeInfo,run_program,hi];rw[if_neg (by simpa using Lf)];simp only[Sem.run_bind,Sem.run_pure,Result.andThen_ok,sd]
   ·cases k7
theorem AfC (hm:BR B S w0 m) (hs:CU B S m ρ a.eval) {s b8 bytes:Nat} {zero:List AV} {l' c':AU} (h:BD P num o.op (.mk s b8 bytes zero l' c')=true) {kl kc:IntKind} {l c:Int} (hl:ρ l' = .int kl l) (hc:ρ c' = .int kc c) (h0:0<=l) (ia:l<=c) (hb:c*bytes<=FI) (Ho:c<=9223372036854775807) (hz:zero.length=b8) :
  CY B S w0 P o a m (.new s ⟨b8,List.replicate l.toNat zero⟩ (λ t => .row s t b8 0 l.toNat)):=by
 obtain ⟨ty,lx,cx,e,inf,z,k9,h1,h2,hu,hi,v7,nn,bk,gq,l9⟩:=Aiy h;have el:=JM (hl ▸ hs lx l' h1);have ec:=JM (hc ▸ hs cx c' h2);have n6:CL B S m zero z.cells.toList:=WB gq;have hzs:z.cells.size=b8:=by rw[<-hz,n6.1];simp
 refine sN hm s b8 l.toNat c.toNat _ (madeCells z.cells (c.toNat*inf.size)) e (Nat.pos_of_ne_zero l9) (by omega) (by rw[size_madeCells,v7];exact Nat.le_refl _) (λ x hx=>by rw[(List.mem_replicate.1 hx).2,hz]) (λ i cs o6 j c1 hj => ?_) ?_
 ·rw[List.getElem?_replicate]at o6
  split at o6
  ·rename_i ft
   obtain rfl:zero=cs:=by simpa using o6
   obtain ⟨u,ji,dh⟩:=V6 n6 hj;refine ⟨u,?_,dh⟩;have di:j<b8:=by rw[<-hz];exact (zS hj).1
   have j9:i*b8+j<c.toNat*inf.size:=by
    rw[v7];have h3:(i+1)*b8<=c.toNat*b8:=zR _ (by omega);rw[Nat.succ_mul]at h3;omega
   have Kg:(i*b8+j)%z.cells.size=j:=by rw[hzs,Nat.add_comm,Nat.add_mul_mod_self_right,Nat.mod_eq_of_lt di]
   have pt:z.cells[j]? = some u:=by simpa using ji
   have hjs:j<z.cells.size:=(Array.getElem?_eq_some_iff.1 pt).1;have jj:z.cells[j]=u:=(Array.getElem?_eq_some_iff.1 pt).2;simp [madeCells,j9,Kg,hjs,jj]
  ·cases o6
 ·have:=run_make (P:=P) m.w ty e inf z hu hi bk kl kc l c h0 ia (by rw[nn,Int.mul_comm];simp only[FI]at hb;omega) Ho
  simp only[execOp,k9,el,ec,Sem.run_bind,this,Result.andThen_ok,Sem.run_pure]
theorem Afr (hm:BR B S w0 m) (hs:CU B S m ρ a.eval) {x':AU} {i:Nat} (h:BD P num o.op (.ext x' i)=true) {vs:List AV} {v:AV} (hx:ρ x' = .g8 vs) (hv:vs[i]? = some v):CY B S w0 P o a m (.val v):=by
 obtain ⟨x,k9,h1⟩:=Aiu h;obtain ⟨us,al,hl,hc⟩:=iS (hx ▸ hs x x' h1);have j9:i<us.length:=by rw[<-hl];exact (zS hv).1
 refine FC hm (u:=us[i]) ?_ (.ca (hc i v us[i] hv (zE j9)));simp [execOp,k9,al,Instr.extract,j9]
theorem AfB (hm:BR B S w0 m) (hs:CU B S m ρ a.eval) {x':AU} (h:BD P num o.op (.len x')=true) {n:Nat} (hx:SE (ρ x')=some n):CY B S w0 P o a m (.val (.int .i64 n)):=by
 obtain ⟨x,t,e,k9,h1,hu⟩:=Aix h;have v9:=hs x x' h1;obtain ⟨ad,cap,al⟩ : ∃ ad cap,a.eval x = .slice ad n cap:=by
  generalize ρ x'=av at *;cases av with
  | sl l es =>
   have hr:=bU v9;simp only[SE,Option.some.injEq]at hx;subst hx;generalize a.eval x=v at *;cases hr with
   | gu=>exact ⟨_,_,rfl⟩
   | sl=>exact ⟨_,_,rfl⟩
  | row s t z off len =>
   obtain ⟨ad,cap,hv,_⟩:=V9 v9;simp only[SE,Option.some.injEq]at hx;subst hx;exact ⟨ad,cap,hv⟩
  | nil =>
   simp only[SE,Option.some.injEq]at hx;subst hx;exact ⟨_,_,V8 v9⟩
  | _=>simp [SE]at hx
 refine FC hm (u := .int .i64 n) ?_ (TK _ _);simp [execOp,k9,resolve,invoke,builtin,al,Builtin.len_,run_underlying hu,goInt]
theorem UN (hs:CU B S m ρ a.eval) : ∀ {xs:List Operand} {ys:List AU},EX xs ys=true->xs.length=ys.length /\ ∀ (j:Nat) (x:Operand) (y:AU),xs[j]? = some x->ys[j]? = some y->CV B S m (ρ y) (a.eval x)
 | [],[],_=>⟨rfl,λ j x y h=>by simp at h⟩
 | x::r,y::l,h=>by
  simp only[EX,Bool.and_eq_true]at h;obtain ⟨ih1,fv⟩:=UN hs h.2;refine ⟨by simp [ih1],λ j x' y' hx hy => ?_⟩;cases j with
  | zero=>simp at hx hy;subst hx hy;exact hs _ _ h.1
  | succ j=>exact fv j x' y' (by simpa using hx) (by simpa using hy)
 | [],_::_,h=>by simp [EX]at h
 | _::_,[],h=>by simp [EX]at h
theorem Mw (mx:Bool) (hs:CU B S m ρ a.eval) (w:World) : ∀ (xs:List Operand) (ys:List AU) (v:AV) (u:Value) (r:AV),EX xs ys=true->CV B S m v u->LP mx v (ys.map ρ)=some r->(∃ k n,v = .int k n) -> ∃ k n,r = .int k n /\
  ((xs.map a.eval).foldlM (if mx then Builtin.max2 else Builtin.min2) u).run P w = .ok (.int k n) w
 | [],[],v,u,r,_,hc,hm,⟨k,n,hv⟩=>by
  simp only[List.map_nil,LP,Option.some.injEq]at hm;subst hm hv;obtain rfl:=JM hc;exact ⟨k,n,rfl,by simp⟩
 | x::xr,y::yr,v,u,r,he,hc,hm,⟨k,n,hv⟩=>by
  simp only[EX,Bool.and_eq_true]at he;simp only[List.map_cons,LP]at hm;have hx:=hs x y he.1;subst hv;obtain rfl:=JM hc;cases hy:ρ y with
  | int k' n' =>
   rw[hy]at hx hm;have hxe:=JM hx;simp only[SG]at hm;obtain ⟨k2,n2,rfl,h2⟩:=Mw mx hs w xr yr _ (.int k (if mx then (if n'>n then n' else n) else (if n'<n then n' else n))) r he.2 (TK _ _) hm ⟨_,_,rfl⟩;refine ⟨k2,n2,rfl,?_⟩;simp only[List.map_cons,List.foldlM_cons,Sem.run_bind,hxe];cases mx
   ·simpa [Builtin.min2] using h2
   ·simpa [Builtin.max2] using h2
  | _=>rw[hy]at hm;simp [SG]at hm
 | [],_::_,_,_,_,he,_,_,_=>by simp [EX]at he
 | _::_,[],_,_,_,he,_,_,_=>by simp [EX]at he
theorem AfE (hm:BR B S w0 m) (hs:CU B S m ρ a.eval) {mx:Bool} {n0:List AU} (h:BD P num o.op (.mm mx n0)=true) {v r:AV} {l:List AV} (hx:n0.map ρ=v::l) (hv:LP mx v l=some r) (hi : ∃ k n,v = .int k n):CY B S w0 P o a m (.val r):=by
 obtain ⟨xs,ts,k9,he⟩:=xT h;cases n0 with
 | nil=>simp at hx
 | cons y yr =>
  simp only[List.map_cons,List.cons.injEq]at hx;obtain ⟨rfl,rfl⟩:=hx;obtain ⟨xl⟩:=xs;cases xl with
  | nil=>simp [EX]at he
  | cons x xr =>
   simp only[EX,Bool.and_eq_true]at he;obtain ⟨k,n,rfl,q9⟩:=Mw (P:=P) mx hs m.w xr yr (ρ y) (a.eval x) r he.2 (hs x y he.1) hv hi;refine FC hm (u := .int k n) ?_ (TK _ _);cases mx
   ·simp only[execOp,k9,resolve,invoke,builtin,Builtin.min_,Sem.run_bind,Sem.run_pure,Result.andThen_ok]at q9 ⊢
    simp at q9 ⊢;rw[q9];rfl
   ·simp only[execOp,k9,resolve,invoke,builtin,Builtin.max_,Sem.run_bind,Sem.run_pure,Result.andThen_ok]at q9 ⊢
    simp at q9 ⊢;rw[q9];rfl
end
end Go.c6
namespace Go.c6
open Go.RowKit
section
variable {B:Nat} {S:Nat->Prop} {w0:World} {m:M}
variable {P:Program} {num:Nat->Nat} {o:Oper} {a:Act} {ρ:AU->AV}
def IL (ρ:AU->AV) (d:Nat):Option AU->Option Int
 | none=>some d
 | some y=>match ρ y with | .int _ n=>some n|_=>none
theorem eK (ty e:TypeId) (inf:TypeInfo) (hu:P.underlying ty=some (.slice e)) (hi:P.info? e=some inf) (hs:CU B S m ρ a.eval) {lo o6:Option Operand} {me Df:Option AU} (ma:Q4 lo me=true) (Gg:Q4 o6 Df=true)
  (ad:Option Addr) (len cap:Nat) (l h:Int) (hl:IL ρ 0 me=some l) (hh:IL ρ len Df=some h) (h0:0<=l) (hlh:l<=h) (De:h<=len) (ia:len<=cap) (w:World) :
  (Instr.sliceAt ty (.slice ad len cap) (lo.map a.eval) (o6.map a.eval) none).run P w = .ok (.slice (if cap=l.toNat then ad else ad.map (·.add (l.toNat*inf.size))) (h.toNat-l.toNat) (cap-l.toNat)) w:=by
 have te : ∀ {x:Option Operand} {y:Option AU} {d:Nat} {n:Int},Q4 x y=true->IL ρ d y=some n->(x=none/\y=none/\n=d) \/ ∃ x' k,x=some x'/\a.eval x' = .int k n:=by
  intro x y d n pz hb;cases x with
  | none=>cases y with
   | none=>simp [IL]at hb;exact .inl ⟨rfl,rfl,hb.symm⟩
   | some y=>simp [Q4]at pz
  | some x=>cases y with
   | none=>simp [Q4]at pz
   | some y =>
    simp only[Q4]at pz;simp only[IL]at hb;cases hy:ρ y with
    | int k q =>
     rw[hy]at hb;simp only[Option.some.injEq]at hb;subst hb;exact .inr ⟨x,k,rfl,JM (hy ▸ hs x y pz)⟩
    | _=>rw[hy]at hb;cases hb
 have vz:h<=(cap:Int):=by omega
 unfold Instr.sliceAt Instr.slice Instr.sliceBounds;rcases te ma hl with ⟨rfl,_,rfl⟩|⟨x1,k1,rfl,e1⟩<;>rcases te Gg hh with ⟨rfl,_,rfl⟩|⟨x2,k2,rfl,e2⟩
 ·simp [run_underlying hu,sizeOf,typeInfo,hi]
 ·have ug:=run_sliceBound (P:=P) w k2 h cap .sliceAcap (by omega) vz
  simp [run_underlying hu,sizeOf,typeInfo,hi,e2,ug]
 ·have u5:=run_sliceBound (P:=P) w k1 l len .sliceB h0 (by omega)
  simp [run_underlying hu,sizeOf,typeInfo,hi,e1,u5]
 ·have ug:=run_sliceBound (P:=P) w k2 h cap .sliceAcap (by omega) vz
  have u5:=run_sliceBound (P:=P) w k1 l h.toNat .sliceB h0 (by omega);simp [run_underlying hu,sizeOf,typeInfo,hi,e1,e2,ug,u5]
theorem AfI (hm:BR B S w0 m) (hs:CU B S m ρ a.eval) {b8:Nat} {x':AU} {me o6:Option AU} (h:BD P num o.op (.cj b8 x' me o6)=true) (hx:ρ x' = .nil) (hl:IL ρ 0 me=some 0) (hh:IL ρ 0 o6=some 0):CY B S w0 P o a m (.val .nil):=by
 obtain ⟨ty,x,lo,um,e,inf,k9,h1,h2,h3,hu,hi,v7,l9⟩:=lJ h;have al:=V8 (hx ▸ hs x x' h1);have q9:=eK ty e inf hu hi hs h2 h3 none 0 0 0 0 hl hh (by omega) (by omega) (by omega) (by omega) m.w;refine FC hm (u := .slice none 0 0) ?_ (.ca (.one .nil));simp only[execOp,k9,al,Sem.run_bind,Option.map_none,q9];rfl
theorem AfJ (hm:BR B S w0 m) (hs:CU B S m ρ a.eval) {b8:Nat} {x':AU} {me o6:Option AU} (h:BD P num o.op (.cj b8 x' me o6)=true) {s t z off len:Nat} {l u:Int} (hx:ρ x' = .row s t z off len) (hl:IL ρ 0 me=some l) (hh:IL ρ len o6=some u) (h0:0<=l) (Gn:l<=u) (jj:u<=len) (hz:z=b8) :
  CY B S w0 P o a m (.val (.row s t z (off+l.toNat) (u.toNat-l.toNat))):=by
 obtain ⟨ty,x,lo,um,e,inf,k9,h1,h2,h3,hu,hi,v7,l9⟩:=lJ h;obtain ⟨ad,cap,al,ht,bk,ia,ha,hb⟩:=V9 (hx ▸ hs x x' h1);have q9:=eK ty e inf hu hi hs h2 h3 ad len cap l u hl hh h0 Gn jj ia m.w;refine FC hm ?_ (.ca (.one (.row s t z (off+l.toNat) (u.toNat-l.toNat) (if cap=l.toNat then ad else ad.map (·.add (l.toNat*inf.size))) (cap-l.toNat) ht bk (by omega) (λ hp => ?_) λ b k8 => ?_)))
 ·simp only[execOp,k9,al,Sem.run_bind,Option.map_none,q9]
  rfl
 ·rw[if_neg (by omega)]
  obtain ⟨zz,rfl⟩:=Option.isSome_iff_exists.1 (ha (by omega));rfl
 ·obtain ⟨np,cr⟩:=hb b k8
  refine ⟨np,?_⟩;rcases cr with ⟨qz,ep⟩|⟨g,arr,e',hg,jb,Ge,hle⟩
  ·exact .inl ⟨by omega,by omega⟩
  ·by_cases hc:cap=l.toNat
   ·exact .inl ⟨by omega,by omega⟩
   ·refine .inr ⟨g,arr,e',hg,?_,Ge,?_⟩
    ·rw[if_neg hc,jb,v7,hz]
     simp only[Option.map_some,IK,Nat.add_mul]
    ·rw[show off+l.toNat+(cap-l.toNat)=off+cap by omega]
     exact hle
theorem AfK (hm:BR B S w0 m) (hs:CU B S m ρ a.eval) {b8:Nat} {x':AU} {me o6:Option AU} (h:BD P num o.op (.cj b8 x' me o6)=true) {lt:Bool} {es:List (List AV)} {l u:Int} (hx:ρ x' = .sl lt es) (hl:IL ρ 0 me=some l) (hh:IL ρ es.length o6=some u) (h0:0<=l) (Gn:l<=u) (jj:u<=es.length) (hz : ∀ e∈es,e.length=b8) :
  CY B S w0 P o a m (.val (.sl lt ((es.take u.toNat).drop l.toNat))):=by
 obtain ⟨ty,x,lo,um,e,inf,k9,h1,h2,h3,hu,hi,v7,l9⟩:=lJ h;have jt:=bU (hx ▸ hs x x' h1);generalize al:a.eval x=v at jt;cases jt with
 | gu _ ad cap =>
  have q9:=eK ty e inf hu hi hs h2 h3 ad 0 cap l u hl hh h0 Gn (by simpa using jj) (by omega) m.w;simp only[List.length_nil]at jj;rw[show (([]:List (List AV)).take u.toNat).drop l.toNat=[] by simp];refine FC hm (u := .slice (if cap=l.toNat then ad else ad.map (·.add (l.toNat*inf.size))) 0 (cap-l.toNat)) ?_ (.ca (.one (.rd (.gu lt _ _))));simp only[execOp,k9,al,Sem.run_bind,Option.map_none,q9];rw[show u.toNat-l.toNat=0 by omega];rfl
 | sl _ _ b ob v5 cap uu rk hp hR ag gq hc hr =>
  have q9:=eK ty e inf hu hi hs h2 h3 (some ⟨b,ob,none⟩) es.length cap l u hl hh h0 Gn jj ag m.w;have Er:v5=b8:=by
   cases es with
   | nil=>exact absurd rfl rk
   | cons q r=>rw[<-gq q (by simp),hz q (by simp)]
  subst Er;by_cases bk:u.toNat-l.toNat=0
  ·have:(es.take u.toNat).drop l.toNat=[]:=by
    apply List.eq_nil_of_length_eq_zero;simp;omega
   rw[this];refine FC hm (u := .slice (if cap=l.toNat then some ⟨b,ob,none⟩ else (some (⟨b,ob,none⟩:Addr)).map (·.add (l.toNat*inf.size))) 0 (cap-l.toNat)) ?_ (.ca (.one (.rd (Rd.gu lt _ _))));simp only[execOp,k9,al,Sem.run_bind,Option.map_none,q9];rw[bk];rfl
  ·have hlen:((es.take u.toNat).drop l.toNat).length=u.toNat-l.toNat:=by simp;omega
   have n7 : ∀ i,i<u.toNat-l.toNat->((es.take u.toNat).drop l.toNat)[i]? = es[l.toNat+i]? := λ i o6=>by
    rw[List.getElem?_drop,List.getElem?_take,if_pos (by omega)]
   refine FC hm (u := .slice (some ⟨b,ob+l.toNat*v5,none⟩) ((es.take u.toNat).drop l.toNat).length (cap-l.toNat)) ?_ (.ca (.one (.rd (.sl lt _ b (ob+l.toNat*v5) v5 (cap-l.toNat) (λ i j=>uu (l.toNat+i) j) (λ e=>bk (by rw[<-hlen,e];rfl)) hp hR (by rw[hlen];omega) (λ q hq=>gq q (List.mem_of_mem_take (List.mem_of_mem_drop hq))) (λ i q o6 j c hj => ?_) (λ i q o6 j c hj => ?_)))))
   ·simp only[execOp,k9,al,Sem.run_bind,Option.map_none,q9]
    rw[if_neg (by omega),hlen,v7];simp only[Option.map_some,IK];rfl
   ·have ft:i<u.toNat-l.toNat:=by rw[<-hlen];exact (zS o6).1
    rw[n7 i ft]at o6;rw[show ob+l.toNat*v5+(i*v5+j)=ob+((l.toNat+i)*v5+j) by rw[Nat.add_mul];omega];exact hc _ q o6 j c hj
   ·have ft:i<u.toNat-l.toNat:=by rw[<-hlen];exact (zS o6).1
    rw[n7 i ft]at o6;exact hr _ q o6 j c hj
structure XR (B:Nat) (S:Nat->Prop) (m:M) (b8:Nat) (ys:List (List AV)) (ad:Option Addr) (news:List Value):Prop where
 len:news.length=ys.length*b8
 cells : ∀ b,ad=some b -> ∀ j v,news[j]? = some v->m.w.cell? (b.add j)=some v
 some_:ys≠[]->ad.isSome=true
 rel : ∀ i cs,ys[i]? = some cs -> ∀ j c,cs[j]? = some c -> ∃ u,news[i*b8+j]? = some u/\CC B S m c u
theorem Ae7 (b8 i j:Nat) (h:j<b8):(i*b8+j)/b8=i/\(i*b8+j)%b8=j:=by
 constructor
 ·rw[Nat.add_comm,Nat.add_mul_div_right _ _ (by omega),Nat.div_eq_of_lt h,Nat.zero_add]
 ·rw[Nat.add_comm,Nat.add_mul_mod_self_right,Nat.mod_eq_of_lt h]
theorem jM (hm:BR B S w0 m) {av:AV} {v:Value} (hc:CV B S m av v) {ys:List (List AV)} (he:FD m.own av=some ys) {b8:Nat} (hz : ∀ e∈ys,e.length=b8) (h0:0<b8) :
  ∃ ad cap news,v = .slice ad ys.length cap/\XR B S m b8 ys ad news:=by
 cases av with
 | sl l es =>
  simp only[FD,Option.some.injEq]at he;subst he;cases bU hc with
  | gu _ ad cap=>exact ⟨ad,cap,[],rfl,by simp,λ b _ j v hv=>by simp at hv,λ h=>absurd rfl h,λ i cs hi=>by simp at hi⟩
  | sl _ _ b ob v5 cap uu rk hp hR ag gq n6 hr =>
   have Er:v5=b8:=by
    cases es with
    | nil=>exact absurd rfl rk
    | cons q r=>rw[<-gq q (by simp),hz q (by simp)]
   subst Er;refine ⟨some ⟨b,ob,none⟩,cap,(List.range (es.length*v5)).map (λ k=>uu (k/v5) (k%v5)),rfl,by simp,λ b' k8 j v hv => ?_,λ_=>rfl,λ i cs hi j c hj => ?_⟩
   ·obtain rfl:(⟨b,ob,none⟩:Addr)=b':=by simpa using k8
    rw[List.getElem?_map]at hv;have di:j<es.length*v5:=by
     rcases Nat.lt_or_ge j (es.length*v5) with h|h
     ·exact h
     ·rw[List.getElem?_eq_none (by simpa using h)]at hv;cases hv
    rw[List.getElem?_range di]at hv;simp only[Option.map_some,Option.some.injEq]at hv;subst hv;have hd:j/v5<es.length:=Nat.div_lt_of_lt_mul (by rw[Nat.mul_comm];exact di);have As:j%v5<v5:=Nat.mod_lt _ h0;have cp:(es[j/v5]).length=v5:=gq _ (List.getElem_mem hd);have:=n6 (j/v5) _ (zE hd) (j%v5) _ (zE (by rw[cp];exact As))
    rw[IK,<-this];congr 2;have:=Nat.div_add_mod j v5
    rw[Nat.mul_comm]at this;omega
   ·have di:j<v5:=by rw[<-gq cs (zM hi)];exact (zS hj).1
    have ft:i<es.length:=(zS hi).1;have j9:i*v5+j<es.length*v5:=by
     have:(i+1)*v5<=es.length*v5:=zR _ ft
     rw[Nat.succ_mul]at this;omega
    obtain ⟨e1,e2⟩:=Ae7 v5 i j di;refine ⟨uu i j,?_,.rd (hr i cs hi j c hj)⟩;rw[List.getElem?_map,List.getElem?_range j9];simp [e1,e2]
 | nil =>
  simp only[FD,Option.some.injEq]at he;subst he;exact ⟨none,0,[],V8 hc,by simp,λ b hb=>(by cases hb),λ h=>absurd rfl h,λ i cs hi=>by simp at hi⟩
 | row s t z off len =>
  obtain ⟨ad,cap,hv,ht,bk,ia,ha,hb⟩:=V9 hc;simp only[FD]at he;cases n7:m.own.get s t with
  | none=>simp [n7]at he
  | some b =>
   simp only[n7]at he;split at he
   ·rename_i hle
    obtain ⟨hle,np⟩:=hle;obtain rfl:=Option.some.inj he;have Us:((b.es.drop off).take len).length=len:=by simp;omega
    obtain ⟨_,cr⟩:=hb b n7;by_cases qz:len=0
    ·subst qz
     refine ⟨ad,cap,[],by simpa using hv,by simp,λ b _ j v hv=>by simp at hv,λ h=>absurd (by simp) h,λ i cs hi=>by simp at hi⟩
    ·rcases cr with ⟨h1,_⟩|⟨g,arr,e',hg,jb,Ge,Aux⟩
     ·exact absurd h1 qz
     ·obtain ⟨gq,bu⟩:=hm.e8 s t b n7
      rw[hg]at bu;obtain ⟨hB,qe,e2,wj,x8⟩:=bu;rw[Ge]at wj;obtain ⟨rfl,rfl⟩:arr=qe/\e'=e2:=by simpa using wj
      have hez:b8=z:=by
       have j9:off<b.es.length:=by omega
       have h1:b.es[off]∈(b.es.drop off).take len:=by
        have:((b.es.drop off).take len)[0]? = some b.es[off]:=by
         rw[List.getElem?_take,if_pos (by omega),List.getElem?_drop];simp [j9]
        exact zM this
       rw[<-hz _ h1,gq _ (List.getElem_mem j9),np]
      subst hez;have v7:off*b8+len*b8<=arr.size:=by
       have:(off+len)*b8<=(off+cap)*b8:=zR _ (by omega)
       rw[Nat.add_mul]at this;omega
      refine ⟨ad,cap,(arr.toList.drop (off*b8)).take (len*b8),by rw[Us];exact hv,by rw[Us];simp;omega,λ b' k8 j v fc => ?_,λ_=>by rw[jb];rfl,λ i cs hi j c hj => ?_⟩
      ·rw[jb]at k8
       obtain rfl:(⟨g,off*b8,none⟩:Addr)=b':=by simpa using k8
       rw[List.getElem?_take]at fc;split at fc
       ·rw[List.getElem?_drop]at fc
        rw[IK,bJ Ge];simpa using fc
       ·cases fc
      ·rw[List.getElem?_take]at hi
       split at hi
       ·rename_i ft
        rw[List.getElem?_drop]at hi;have di:j<b8:=by rw[<-np,<-gq cs (zM hi)];exact (zS hj).1
        obtain ⟨u,hu,dh⟩:=x8 (off+i) cs hi j c hj;refine ⟨u,?_,dh⟩;have j9:i*b8+j<len*b8:=by
         have:(i+1)*b8<=len*b8:=zR _ ft
         rw[Nat.succ_mul]at this;omega
        rw[List.getElem?_take,if_pos j9,List.getElem?_drop,<-hu,np];simp only[Array.getElem?_toList];congr 1;rw[Nat.add_mul];omega
       ·cases hi
   ·cases he
 | aj v' =>
  cases v' with
  | bool b =>
   simp only[FD,Option.some.injEq]at he;subst he;obtain ⟨ad,cap,hv,_⟩:=rU hc;exact ⟨ad,cap,[],hv,by simp,λ b' k8 j v fc=>by simp at fc,λ h=>absurd rfl h,λ i cs hi=>by simp at hi⟩
  | _=>simp [FD]at he
 | _=>simp [FD]at he
theorem XR.one {b8:Nat} {ys:List (List AV)} {ad:Option Addr} {news:List Value} (h:XR B S m b8 ys ad news) (h0:0<b8) (hz : ∀ e∈ys,e.length=b8) : ∀ u∈news,u.oneCell'=true:=by
 intro u hu;obtain ⟨k,hk,rfl⟩:=List.getElem_of_mem hu;rw[h.len]at hk;have hd:k/b8<ys.length:=Nat.div_lt_of_lt_mul (by rw[Nat.mul_comm];exact hk);have As:k%b8<b8:=Nat.mod_lt _ h0;have cp:(ys[k/b8]).length=b8:=hz _ (List.getElem_mem hd);obtain ⟨u',ji,hc⟩:=h.rel (k/b8) _ (zE hd) (k%b8) _ (zE (by rw[cp];exact As));have gy:k/b8*b8+k%b8=k:=by
  have:=Nat.div_add_mod k b8
  rw[Nat.mul_comm]at this;exact this
 rw[gy]at ji;obtain rfl:news[k]=u':=by
  have:=(zS ji).2
  exact this
 exact hc.one
theorem XR.src {b8:Nat} {ys:List (List AV)} {ad:Option Addr} {news:List Value} (h:XR B S m b8 ys ad news) (h0:0<b8) (hz : ∀ e∈ys,e.length=b8) {t e:TypeId} (hu:P.underlying t=some (.slice e)) (cap:Nat):Src P b8 t (.slice ad ys.length cap) ys.length news m.w:=by
 cases ad with
 | none =>
  have vd:ys=[]:=by
   cases ys with
   | nil=>rfl
   | cons y r=>exact absurd (h.some_ (by simp)) (by simp)
  subst vd;have hn:news=[]:=List.eq_nil_of_length_eq_zero (by simpa using h.len);subst hn;exact Src.ofNil m.w hu cap
 | some b=>exact Src.ofSlice m.w hu b ys.length cap news h.len (h.cells b rfl) (h.one h0 hz)
theorem Ajp (arr:Array Value) (off:Nat) (news:List Value) (h:off+news.length<=arr.size) (p:Nat):(arr.toList.take off++news++arr.toList.drop (off+news.length)).toArray[p]? = if p<off then arr[p]? else if p<off+news.length then news[p-off]? else arr[p]? := by
 simp only[List.getElem?_toArray];rw[nQ _ _ _ (by simpa using h)];simp only[Array.getElem?_toList]
theorem Aki (t tx e ex:TypeId) (i:TypeInfo) (ht:P.underlying t=some (.slice e)) (hx:P.underlying tx=some (.slice ex)) (hi:P.info? e=some i) (g off nf pd:Nat) (x:Value) (n:Nat) (news:List Value) (w:World) (hs:Src P i.size tx x n news w) (ko:nf+n<=pd) (arr:Array Value) (e':TypeId)
  (hh:w.heap[g]? = some (.cells arr e' (0,0))) (v7:off+nf*i.size+news.length<=arr.size) (ty:TypeId) :
  (Builtin.append_ #[t,tx] ty #[.slice (some ⟨g,off,none⟩) nf pd,x]).run P w = .ok (.slice (some ⟨g,off,none⟩) (nf+n) pd) (w.setRow g (arr.toList.take (off+nf*i.size)++news++arr.toList.drop (off+nf*i.size+news.length)).toArray):=by
 have k7:=run_storeCells_at (P:=P) g (off+nf*i.size) e' news 0 arr w hh (by omega) hs.one;simp only[Nat.add_zero]at k7;simp [Builtin.append_,run_underlying ht,run_underlying hx,sizeOf,typeInfo,hi,hs.len,ko,hs.cells,IK,k7]
theorem Mt (t tx e ex:TypeId) (i:TypeInfo) (ht:P.underlying t=some (.slice e)) (hx:P.underlying tx=some (.slice ex)) (hi:P.info? e=some i) (ad:Option Addr) (pd:Nat) (x:Value) (w:World) (hs:Src P i.size tx x 0 [] w) (ty:TypeId) :
  (Builtin.append_ #[t,tx] ty #[.slice ad 0 pd,x]).run P w = .ok (.slice ad 0 pd) w:=by
 have hc:=hs.cells;cases ad<;>simp [Builtin.append_,run_underlying ht,run_underlying hx,sizeOf,typeInfo,hi,hs.len,hc,storeCells]
theorem ZU {x y:Operand} {t tx:TypeId} (k9:o.op = .call ⟨.builtin .append,#[x,y],#[t,tx]⟩) {u:Value} {w w':World} (h:(Builtin.append_ #[t,tx] o.type #[a.eval x,a.eval y]).run P w = .ok u w'):(execOp a.eval o).run P w = .ok (.value u) w':=by
 simp [execOp,k9,resolve,invoke,builtin,h]
theorem AhL (bm news:List Value) (z:Array Value) (k p:Nat) (h:p<bm.length+news.length):((bm++news).toArray++Builtin.zeroCells z k)[p]? = (bm++news)[p]? := by
 rw[Array.getElem?_append_left (by simpa using h)];simp
theorem Aj7 {b8 len:Nat} {xs ys:List (List AV)} {bm news:List Value} (Hb:xs.length=len) (Kl:bm.length=len*b8) (hzx : ∀ e∈xs,e.length=b8)
  (hx : ∀ i cs,xs[i]? = some cs -> ∀ j c,cs[j]? = some c -> ∃ u,bm[i*b8+j]? = some u/\CC B S m c u)
  (hy : ∀ i cs,ys[i]? = some cs -> ∀ j c,cs[j]? = some c -> ∃ u,news[i*b8+j]? = some u/\CC B S m c u) :
  ∀ i cs,(xs++ys)[i]? = some cs -> ∀ j c,cs[j]? = some c -> ∃ u,(bm++news)[i*b8+j]? = some u/\CC B S m c u:=by
 intro i cs hi j c hj;by_cases ft:i<len
 ·rw[List.getElem?_append_left (by omega)]at hi
  obtain ⟨u,hu,hc⟩:=hx i cs hi j c hj;exact ⟨u,by rw[List.getElem?_append_left (by have:=(zS hu).1;omega)];exact hu,hc⟩
 ·rw[List.getElem?_append_right (by omega),Hb]at hi
  obtain ⟨u,hu,hc⟩:=hy (i-len) cs hi j c hj;refine ⟨u,?_,hc⟩;have e1:i*b8=len*b8+(i-len)*b8:=by rw[<-Nat.add_mul];congr 1;omega
  rw[List.getElem?_append_right (by omega),<-hu];congr 1;omega
theorem zH {s z n cap:Nat} {es:List (List AV)} {w':World} {g t:Nat} {arr:Array Value} {e:TypeId} (hz:0<z) (hn:n<=cap) (hg:w'.heap[g]? = some (.cells arr e (0,0))) (hc:cap*z<=arr.size) :
  CV B S ⟨j5 m s (some g),m.own.put s (((m.own s).o7 t none).new ⟨z,es⟩),w'⟩ (.row s (m.own.g9 s) z 0 n) (.slice (some ⟨g,0,none⟩) n cap):=by
 refine .ca (.one (.row s (m.own.g9 s) z 0 n _ cap ?_ hz hn (λ_=>rfl) λ b' k8=>⟨?_,.inr ⟨g,arr,e,?_,by simp,hg,by simpa using hc⟩⟩))
 ·show _<AJ.g9 _ s
  rw[bQ];simp
 ·change AJ.get _ s _=some b' at k8
  rw[UV,if_pos ⟨rfl,rfl⟩]at k8;obtain rfl:(⟨z,es⟩:ES)=b':=by simpa using k8
  rfl
 ·simp [j5]
theorem Yj (hm:BR B S w0 m) (ob:Obj):Below B w0 (m.w.drew.alloc ob):=hm.below.drew.alloc (by simpa using hm.size) ob
theorem Afe (hm:BR B S w0 m) (hs:CU B S m ρ a.eval) {s b8 bytes:Nat} {x' y':AU} (h:BD P num o.op (.app s b8 bytes x' y')=true) {ys:List (List AV)} (hy:FD m.own (ρ y')=some ys) (hz : ∀ e∈ys,e.length=b8) {s' t len:Nat} {b:ES} (hx:ρ x' = .row s' t b8 0 len) (n7:m.own.get s' t=some b)
  (np:b.b8=b8) (hle:len<=b.es.length) (ko:(len+ys.length)*bytes<=FI) (Ho:len+ys.length<=9223372036854775807) :
  CY B S w0 P o a m (.bn (.row s' (m.own.g9 s') b8 0 (len+ys.length)) (m.own.put s' (((m.own s').o7 t none).new ⟨b8,b.es.take len++ys⟩))):=by
 obtain ⟨x,y,ty,e,i,z,tx,ex,k9,h1,h2,hu,hi,v7,nn,bk,gq,l9,Ay⟩:=xQ h;have h0:0<b8:=Nat.pos_of_ne_zero l9;obtain ⟨ad,cap,al,ht,_,ia,ha,hb⟩:=V9 (hx ▸ hs x x' h1);obtain ⟨xi,ig,news,tj,cp⟩:=jM hm (hs y y' h2) hy hz h0;have ku:Src P i.size tx (.slice xi ys.length ig) ys.length news m.w:=by rw[v7];exact cp.src h0 hz Ay ig
 obtain ⟨vu,bu⟩:=hm.e8 s' t b n7;obtain ⟨_,cr⟩:=hb b n7;have fk:(b.es.take len).length=len:=by simp;omega
 have xf : ∀ q∈b.es.take len++ys,q.length=b8:=λ q hq=>by
  rcases List.mem_append.1 hq with hq|hq
  ·rw[<-np];exact vu q (List.mem_of_mem_take hq)
  ·exact hz q hq
 intro K Q hK;by_cases uj:len+ys.length<=cap
 ·rcases cr with ⟨qz,ep⟩|⟨g,arr,e',hg,jb,hh,Jq⟩
  ·have vd:ys=[]:=List.eq_nil_of_length_eq_zero (by omega)
   subst vd;subst qz ep;have nz:news=[]:=List.eq_nil_of_length_eq_zero (by simpa using cp.len);subst nz;have q9:=Mt ty tx e ex i hu Ay hi ad 0 (.slice xi 0 ig) m.w (by simpa using ku) o.type;obtain ⟨k1,k2⟩:=lZ hm s' t b ⟨b8,b.es.take 0++[]⟩ n7 none m.w hm.below (Nat.le_refl _) (λ_ _ _=>rfl) (by simp) (by simp) (by simp);refine SW (ZU k9 (by rw[al,tj];simpa using q9)) (hK _ ⟨j5 m s' none,m.own.put s' (((m.own s').o7 t none).new ⟨b8,b.es.take 0++[]⟩),m.w⟩ rfl k1 k2 (.ca (.one (.row s' (m.own.g9 s') b8 0 0 ad 0 ?_ h0 (Nat.le_refl _) (λ h=>by omega) λ b' k8=>⟨?_,.inl ⟨rfl,rfl⟩⟩))))
   ·show _<AJ.g9 _ s'
    rw[bQ];simp
   ·change AJ.get _ s' _=some b' at k8
    rw[UV,if_pos ⟨rfl,rfl⟩]at k8;obtain rfl:(⟨b8,b.es.take 0++[]⟩:ES)=b':=by simpa using k8
    rfl
  ·have yg:ad=some ⟨g,0,none⟩:=by simpa using jb
   rw[hg]at bu;obtain ⟨hB,qe,e2,wj,x8⟩:=bu;rw[hh]at wj;obtain ⟨rfl,rfl⟩:arr=qe/\e'=e2:=by simpa using wj
   have ew:news.length=ys.length*b8:=cp.len;have hbound:len*b8+news.length<=arr.size:=by
    have:(len+ys.length)*b8<=(0+cap)*b8:=zR _ (by omega)
    rw[Nat.add_mul]at this;omega
   have q9:=Aki ty tx e ex i hu Ay hi g 0 len cap (.slice xi ys.length ig) ys.length news m.w ku uj arr e' hh (by rw[v7];omega) o.type;rw[v7,Nat.zero_add]at q9;generalize ka:(arr.toList.take (len*b8)++news++arr.toList.drop (len*b8+news.length)).toArray=v3 at q9;have cq : ∀ p,v3[p]? = if p<len*b8 then arr[p]? else if p<len*b8+news.length then news[p-len*b8]? else arr[p]? := λ p=>by rw[<-ka];exact Ajp arr (len*b8) news hbound p
   have mw:v3.size=arr.size:=by rw[<-ka];simp;omega
   obtain ⟨k1,k2⟩:=lZ hm s' t b ⟨b8,b.es.take len++ys⟩ n7 (some g) (m.w.setRow g v3) (qH hm hB v3) (by simp) (λ k _ rk=>setRow_other _ _ _ _ (λ e=>rk (e ▸ hg))) xf (by simp) (λ g' iu=>by
    obtain rfl:g=g':=by simpa using iu
    refine ⟨hB,.inr hg,v3,e',setRow_heap _ _ _ _ _ _ hh,λ i' cs o6 j c hj => ?_⟩;show ∃ u,v3[i'*b8+j]? = some u/\_;by_cases ft:i'<len
    ·rw[List.getElem?_append_left (by omega),List.getElem?_take,if_pos ft]at o6
     have di:j<b8:=by rw[<-np,<-vu cs (zM o6)];exact (zS hj).1
     obtain ⟨u,ji,dh⟩:=x8 i' cs o6 j c hj;refine ⟨u,?_,dh⟩;have:(i'+1)*b8<=len*b8:=zR _ ft
     rw[Nat.succ_mul]at this;rw[cq,if_pos (by omega),<-ji,np]
    ·rw[List.getElem?_append_right (by omega),fk]at o6
     obtain ⟨u,ji,dh⟩:=cp.rel (i'-len) cs o6 j c hj;refine ⟨u,?_,dh⟩;have jj:=(zS ji).1;have e1:i'*b8=len*b8+(i'-len)*b8:=by rw[<-Nat.add_mul];congr 1;omega
     rw[cq,if_neg (by omega),if_pos (by omega),<-ji];congr 1;omega)
   exact SW (ZU k9 (by rw[al,tj,yg];exact q9)) (hK _ ⟨j5 m s' (some g),m.own.put s' (((m.own s').o7 t none).new ⟨b8,b.es.take len++ys⟩),m.w.setRow g v3⟩ rfl k1 k2 (zH h0 uj (setRow_heap _ _ _ _ _ _ hh) (by rw[mw];simpa using Jq)))
 ·have wi:cap<len+ys.length:=by omega
  obtain ⟨bm,Kl,hold,Dx⟩ : ∃ bm:List Value,bm.length=len*b8/\(Builtin.firstCells i.size len (.slice ad len cap)).run P m.w.drew = .ok bm.toArray m.w.drew/\(∀ i' cs,(b.es.take len)[i']? = some cs -> ∀ j c,cs[j]? = some c -> ∃ u,bm[i'*b8+j]? = some u/\CC B S m c u):=by
   rcases cr with ⟨qz,ep⟩|⟨g,arr,e',hg,jb,hh,Jq⟩
   ·subst qz
    refine ⟨[],by simp,?_,λ i' cs o6=>by simp at o6⟩;cases ad with
    | none=>exact run_firstCells_none m.w.drew i.size 0 0 cap
    | some zz=>exact run_firstCells_some m.w.drew i.size 0 zz 0 cap [] (by simp) (λ j v hv=>by simp at hv)
   ·have yg:ad=some ⟨g,0,none⟩:=by simpa using jb
    rw[hg]at bu;obtain ⟨hB,qe,e2,wj,x8⟩:=bu;rw[hh]at wj;obtain ⟨rfl,rfl⟩:arr=qe/\e'=e2:=by simpa using wj
    have n6:len*b8<=arr.size:=by
     have:len*b8<=(0+cap)*b8:=zR _ (by omega)
     omega
    refine ⟨arr.toList.take (len*b8),by simp;omega,?_,λ i' cs o6 j c hj => ?_⟩
    ·rw[yg]
     refine run_firstCells_some m.w.drew i.size len ⟨g,0,none⟩ len cap _ (by rw[v7];simp;omega) (λ j v hv => ?_);rw[List.getElem?_take]at hv;split at hv
     ·rw[IK,bJ (w:=m.w.drew) (show m.w.heap[g]? = _ from hh)]
      simpa using hv
     ·cases hv
    ·rw[List.getElem?_take]at o6
     split at o6
     ·rename_i ft
      have di:j<b8:=by rw[<-np,<-vu cs (zM o6)];exact (zS hj).1
      obtain ⟨u,ji,dh⟩:=x8 i' cs o6 j c hj;refine ⟨u,?_,dh⟩;have:(i'+1)*b8<=len*b8:=zR _ ft
      rw[Nat.succ_mul]at this;rw[List.getElem?_take,if_pos (by omega),<-ji,np];simp
     ·cases o6
  have q9:=run_append_grow_src (P:=P) m.w ty tx o.type e i z hu hi bk ad len cap bm hold (.slice xi ys.length ig) ys.length news ku wi (by omega) (growslice_fits wi (by rw[nn];exact ko));have ew:news.length=ys.length*b8:=cp.len;have ag:len+ys.length<=grownCap m.w (len+ys.length) cap e:=grownCap_ge _ _ _ _;generalize Gc:grownCap m.w (len+ys.length) cap e=gc at q9 ag;have gd:=Yj hm (.cells ((bm++news).toArray++Builtin.zeroCells z.cells (gc-(len+ys.length))) e);have gj:(m.w.drew.alloc (.cells ((bm++news).toArray++Builtin.zeroCells z.cells (gc-(len+ys.length))) e)).heap[m.w.heap.size]? = some (.cells ((bm++news).toArray++Builtin.zeroCells z.cells (gc-(len+ys.length))) e (0,0)):=heap_alloc_new m.w.drew _;obtain ⟨k1,k2⟩:=lZ hm s' t b ⟨b8,b.es.take len++ys⟩ n7 (some m.w.heap.size) _ gd (by simp) (λ k hk _=>Below.heap_alloc m.w.drew _ k hk) xf (by simp) (λ g' iu=>by
   obtain rfl:m.w.heap.size=g':=by simpa using iu
   refine ⟨hm.size,.inl (Nat.le_refl _),_,e,gj,λ i' cs o6 j c hj => ?_⟩;obtain ⟨u,ji,dh⟩:=Aj7 fk Kl (λ q hq=>by rw[<-np];exact vu q (List.mem_of_mem_take hq)) Dx cp.rel i' cs o6 j c hj;refine ⟨u,?_,dh⟩;rw[AhL _ _ _ _ _ (by have:=(zS ji).1;simpa using this)];exact ji)
  refine SW (ZU k9 (by rw[al,tj];exact q9)) (hK _ ⟨j5 m s' (some m.w.heap.size),m.own.put s' (((m.own s').o7 t none).new ⟨b8,b.es.take len++ys⟩),_⟩ rfl k1 k2 (zH h0 ag gj ?_));have vg:(Builtin.zeroCells z.cells (gc-(len+ys.length))).size=(gc-(len+ys.length))*b8:=by simp [Builtin.zeroCells,gq]
  rw[Array.size_append,vg];simp only[List.size_toArray,List.length_append,Kl,ew];rw[<-Nat.add_mul,<-Nat.add_mul];exact zR _ (by omega)
theorem Afd (hm:BR B S w0 m) (hs:CU B S m ρ a.eval) {s b8 bytes:Nat} {x' y':AU} (h:BD P num o.op (.app s b8 bytes x' y')=true) {ys:List (List AV)} (hy:FD m.own (ρ y')=some ys) (hz : ∀ e∈ys,e.length=b8) (hx:ρ x' = .nil)
  (ko:ys.length*bytes<=FI) (Ho:ys.length<=9223372036854775807) :
  CY B S w0 P o a m (.bn (.row s (m.own.g9 s) b8 0 ys.length) (m.own.put s ((m.own s).new ⟨b8,ys⟩))):=by
 obtain ⟨x,y,ty,e,i,z,tx,ex,k9,h1,h2,hu,hi,v7,nn,bk,gq,l9,Ay⟩:=xQ h;have h0:0<b8:=Nat.pos_of_ne_zero l9;have al:=V8 (hx ▸ hs x x' h1);obtain ⟨xi,ig,news,tj,cp⟩:=jM hm (hs y y' h2) hy hz h0;have ku:Src P i.size tx (.slice xi ys.length ig) ys.length news m.w:=by rw[v7];exact cp.src h0 hz Ay ig
 intro K Q hK;by_cases vd:ys=[]
 ·subst vd
  have nz:news=[]:=List.eq_nil_of_length_eq_zero (by simpa using cp.len);subst nz;have q9:=Mt ty tx e ex i hu Ay hi none 0 (.slice xi 0 ig) m.w (by simpa using ku) o.type;obtain ⟨k1,k2⟩:=Qb hm s b8;refine SW (ZU k9 (by rw[al,tj];simpa using q9)) (hK _ ⟨j5 m s none,m.own.put s ((m.own s).new ⟨b8,[]⟩),m.w⟩ rfl k1 k2 (.ca (.one (.row s (m.own.g9 s) b8 0 0 none 0 ?_ h0 (Nat.le_refl _) (λ h=>by omega) λ b' k8=>⟨?_,.inl ⟨rfl,rfl⟩⟩))))
  ·show _<AJ.g9 _ s
   rw[L4];simp
  ·change AJ.get _ s _=some b' at k8
   rw[HD,if_pos ⟨rfl,rfl⟩]at k8;obtain rfl:(⟨b8,[]⟩:ES)=b':=by simpa using k8
   rfl
 ·have Ko:0<ys.length:=List.length_pos_iff.2 vd
  have q9:=run_append_grow_src (P:=P) m.w ty tx o.type e i z hu hi bk none 0 0 [] (run_firstCells_none m.w.drew i.size 0 0 0) (.slice xi ys.length ig) ys.length news ku (by omega) (by omega) (growslice_fits (by omega) (by rw[nn,Nat.zero_add];exact ko));simp only[Nat.zero_add,List.nil_append]at q9;have ew:news.length=ys.length*b8:=cp.len;have ag:ys.length<=grownCap m.w ys.length 0 e:=grownCap_ge _ _ _ _;generalize Gc:grownCap m.w ys.length 0 e=gc at q9 ag;have hd:Below m.w.heap.size m.w m.w.drew:=(Below.refl _ _).drew;obtain ⟨eu,Dc⟩:=grow hm hd;obtain ⟨k1,k2⟩:=hJ eu s ⟨b8,ys⟩ (news.toArray++Builtin.zeroCells z.cells (gc-ys.length)) e hz (λ i' cs o6 j c hj=>by
   obtain ⟨u,ji,dh⟩:=cp.rel i' cs o6 j c hj;refine ⟨u,?_,Dc.cc dh⟩;have jj:=(zS ji).1;show (news.toArray++Builtin.zeroCells z.cells (gc-ys.length))[i'*b8+j]? = some u;rw[Array.getElem?_append_left (by simpa using jj)];simpa using ji)
  have vg:(Builtin.zeroCells z.cells (gc-ys.length)).size=(gc-ys.length)*b8:=by simp [Builtin.zeroCells,gq]
  refine SW (ZU k9 (by rw[al,tj];exact q9)) (hK _ ⟨j5 ⟨m.ν,m.own,m.w.drew⟩ s (some m.w.drew.heap.size),m.own.put s ((m.own s).new ⟨b8,ys⟩),_⟩ rfl k1 (Dc.trans k2) (zL (m:=⟨m.ν,m.own,m.w.drew⟩) h0 ag (heap_alloc_new m.w.drew _) ?_));rw[Array.size_append,vg];simp only[List.size_toArray,ew];rw[<-Nat.add_mul];exact zR _ (by omega)
end
end Go.c6

namespace Go.c6
open Go.RowKit
section
variable {B:Nat} {S:Nat->Prop} {w0:World} {m:M}
variable {P:Program} {num:Nat->Nat} {o:Oper} {a:Act} {ρ:AU->AV}
structure H6 (P:Program) (num:Nat->Nat) (C:Cl):Prop where
 qg : ∀ (f:Nat) (vs:List AV) (r:AV),C.pure f vs=some r -> ∀ (us:Array Value) (w:World),(callFunc (num f) us).run P w = .ok (.enter (num f) us) w
 ml : ∀ (f:Nat) (vs:List AV) (own:AJ) (r:AV × AJ),C.fm f vs own=some r -> ∀ (us:Array Value) (w:World),(callFunc (num f) us).run P w = .ok (.enter (num f) us) w
 pure : ∀ (f:Nat) (vs:List AV) (r:AV),C.pure f vs=some r -> ∀ (S:Nat->Prop) (w:World) (us:List Value),vs.length=us.length->(∀ (j:Nat) (c:AV) (v:Value),vs[j]? = some c->us[j]? = some v->CA w.heap.size S ⟨λ_ _=>none,AJ.emp,w⟩ c v) ->
  Calls P (num f) us.toArray w λ e w' => ∃ u,e = .returned u/\Below w.heap.size w w'/\CV w.heap.size S ⟨λ_ _=>none,AJ.emp,w'⟩ r u/\AZ r
 fm : ∀ (f:Nat) (vs:List AV) (own:AJ) (r:AV) (l8:AJ),C.fm f vs own=some (r,l8) -> ∀ (B:Nat) (S:Nat->Prop) (w0:World) (m:M) (us:List Value),m.own=own->BR B S w0 m->vs.length=us.length->(∀ (j:Nat) (c:AV) (v:Value),vs[j]? = some c->us[j]? = some v->CV B S m c v) ->
  Calls P (num f) us.toArray m.w λ e w' => ∃ u m',e = .returned u/\m'.w=w'/\m'.own=l8/\BR B S w0 m'/\DS B S m m'/\CV B S m' r u
 num:C.num=num
end
end Go.c6

namespace Go.c6
open Go.RowKit
theorem SF {α β:Type} (f:α->Option β) : ∀ {l:List α} {l':List β},l.mapM f=some l'->l.length=l'.length /\ ∀ (i:Nat) (x:α),l[i]? = some x -> ∃ y,l'[i]? = some y/\f x=some y
 | [],l',h=>by
  simp at h;subst h;exact ⟨rfl,λ i x hx=>by simp at hx⟩
 | x::r,l',h=>by
  simp only[List.mapM_cons,Option.bind_eq_bind,Option.pure_def]at h;cases hx:f x with
  | none=>simp [hx]at h
  | some y =>
   cases hr:r.mapM f with
   | none=>simp [hx,hr]at h
   | some r' =>
    simp [hx,hr]at h;subst h;obtain ⟨h1,h2⟩:=SF f hr;refine ⟨by simp [h1],λ i z hz => ?_⟩;cases i with
    | zero=>simp at hz;subst hz;exact ⟨y,rfl,hx⟩
    | succ i=>exact h2 i z (by simpa using hz)
section
variable {B:Nat} {S:Nat->Prop} {w0:World} {m:M}
variable {P:Program} {num:Nat->Nat} {o:Oper} {a:Act} {ρ:AU->AV}
theorem Mg (hm:BR B S w0 m) (l0:Bool) (R:Bool->Nat->Prop) (hR : ∀ l b,b<m.w.heap.size->safe B S m l b->R l b) (hL : ∀ s t g,live m s t->m.ν s t=some g->R l0 g) :
  ∀ (d:Nat) (c c':AV) (v:Value),snap m.own l0 d c=some c'->CC B S m c v->Rd m.w R c' v:=by
 intro d;induction d with
 | zero =>
  intro c c' v h hc;cases hc with
  | rd hr =>
   have:c'=c:=by cases hr<;>simp [snap]at h<;>exact h.symm
   subst this;exact hr.mono hR (λ_ _ _ _=>rfl)
  | nil=>simp [snap]at h;subst h;exact .gu _ _ _
  | _=>simp [snap]at h
 | succ d ih =>
  intro c c' v h hc;cases hc with
  | rd hr =>
   have:c'=c:=by cases hr<;>simp [snap]at h<;>exact h.symm
   subst this;exact hr.mono hR (λ_ _ _ _=>rfl)
  | nil=>simp [snap]at h;subst h;exact .gu _ _ _
  | ptr=>simp [snap]at h
  | u6=>simp [snap]at h
  | row s t z off len ad cap ht bk ia ha hb =>
   simp only[snap]at h;cases cp:FD m.own (.row s t z off len) with
   | none=>simp [cp]at h
   | some es =>
    simp only[cp]at h;cases gf:es.mapM (λ cs:List AV=>cs.mapM (snap m.own l0 d)) with
    | none=>simp [gf]at h
    | some es' =>
     simp [gf]at h;subst h;have Ls:(∀ e∈es,e.length=z)/\es.length=len /\ ∃ b,m.own.get s t=some b:=by
      simp only[FD]at cp;cases n7:m.own.get s t with
      | none=>simp [n7]at cp
      | some b =>
       simp only[n7]at cp;split at cp
       ·rename_i hle
        obtain rfl:=Option.some.inj cp;refine ⟨λ e he => ?_,by simp;omega,b,rfl⟩;rw[<-hle.2];exact (hm.e8 s t b n7).1 e (List.mem_of_mem_drop (List.mem_of_mem_take he))
       ·cases cp
     obtain ⟨hz,hlen,b,n7⟩:=Ls;have v9:CV B S m (.row s t z off len) (.slice ad len cap):= .ca (.one (.row s t z off len ad cap ht bk ia ha hb));obtain ⟨ad2,Hl,news,Gx,hE⟩:=jM hm v9 cp hz bk;obtain ⟨rfl,_,rfl⟩:ad=ad2/\len=es.length/\cap=Hl:=by simpa using Gx
     obtain ⟨dj,qy⟩:=SF _ gf;by_cases h0:es=[]
     ·subst h0
      have:es'=[]:=List.eq_nil_of_length_eq_zero (by rw[<-dj];rfl)
      subst this;have:len=0:=by rw[<-hlen];rfl
      subst this;exact .gu _ _ _
     ·obtain ⟨_,cr⟩:=hb b n7
      rcases cr with ⟨Auu,_⟩|⟨g,arr,e',hg,jb,hh,Jq⟩
      ·exact absurd (List.eq_nil_of_length_eq_zero (by omega)) h0
      ·rw[jb,<-hlen,dj]
       refine .sl l0 es' g (off*z) z cap (λ i j=>news.getD (i*z+j) undef) (λ e=>h0 (List.eq_nil_of_length_eq_zero (by rw[dj,e];rfl))) bk (hL s t g ⟨b,n7⟩ hg) (by omega) (λ e' fh => ?_) (λ i e hi j c hj => ?_) (λ i e hi j c hj => ?_)
       ·obtain ⟨i,hi,rfl⟩:=List.getElem_of_mem fh
        have o6:i<es.length:=by omega
        obtain ⟨y,hy,er⟩:=qy i es[i] (zE o6);have:es'[i]=y:=by
         have:=(zS hy).2;exact this
        rw[this,<-(SF _ er).1];exact hz _ (List.getElem_mem o6)
       ·have o6:i<es.length:=by rw[dj];exact (zS hi).1
        obtain ⟨y,hy,er⟩:=qy i es[i] (zE o6);rw[hi]at hy;obtain rfl:e=y:=by simpa using hy
        obtain ⟨du,_⟩:=SF _ er;have An:j<(es[i]).length:=by rw[du];exact (zS hj).1
        obtain ⟨u,hu,dh⟩:=hE.rel i es[i] (zE o6) j _ (zE An);have:=hE.cells _ jb (i*z+j) u hu
        rw[IK]at this;simp only[List.getD,hu,Option.getD_some];exact this
       ·have o6:i<es.length:=by rw[dj];exact (zS hi).1
        obtain ⟨y,hy,er⟩:=qy i es[i] (zE o6);rw[hi]at hy;obtain rfl:e=y:=by simpa using hy
        obtain ⟨du,iu⟩:=SF _ er;have An:j<(es[i]).length:=by rw[du];exact (zS hj).1
        obtain ⟨u,hu,dh⟩:=hE.rel i es[i] (zE o6) j _ (zE An);obtain ⟨c2,qo,uy⟩:=iu j _ (zE An);rw[hj]at qo;obtain rfl:c=c2:=by simpa using qo
        simp only[List.getD,hu,Option.getD_some];exact ih _ _ _ uy dh
def DA (w:World) (R:Bool->Nat->Prop) (c:AV) (v:Value):Prop :=
 Rd w R c v \/ ∃ (cs:List AV) (vs:List Value),c = .agg cs/\v = .agg vs.toArray/\cs.length=vs.length /\ ∀ (j:Nat) (x:AV) (u:Value),cs[j]? = some x->vs[j]? = some u->Rd w R x u
theorem fI (hm:BR B S w0 m) (l0:Bool) (R:Bool->Nat->Prop) (hR : ∀ l b,b<m.w.heap.size->safe B S m l b->R l b) (hL : ∀ s t g,live m s t->m.ν s t=some g->R l0 g)
  {c c':AV} {v:Value} (h:C0 m.own l0 c=some c') (hc:CV B S m c v):DA m.w R c' v:=by
 cases hc with
 | any v=>simp [C0,snap]at h
 | g8=>simp [C0,snap]at h
 | ca hc=>cases hc with
  | one hc =>
   have h':snap m.own l0 6 c=some c':=by
    cases hc with
    | rd hr=>cases hr<;>simpa [C0] using h
    | _=>simpa [C0] using h
   exact Or.inl (Mg hm l0 R hR hL 6 c c' v h' hc)
  | fn=>simp [C0,snap]at h
  | qh=>simp [C0,snap]at h
  | agg cs vs n6 =>
   simp only[C0]at h;cases gx:cs.mapM (snap m.own l0 6) with
   | none=>simp [gx]at h
   | some cn =>
    simp [gx]at h;subst h;obtain ⟨h1,h2⟩:=SF _ gx;refine Or.inr ⟨cn,vs,rfl,rfl,h1.symm.trans n6.1,λ j x u hx hu => ?_⟩;have hj:j<cs.length:=by rw[h1];exact (zS hx).1
    obtain ⟨y,hy,er⟩:=h2 j cs[j] (zE hj);rw[hx]at hy;obtain rfl:x=y:=by simpa using hy
    exact Mg hm l0 R hR hL 6 _ _ _ er (n6.2 j cs[j] u (zE hj) hu)
def DV (w:World) (R:Bool->Nat->Prop) (c:AV) (v:Value):Prop :=
 DA w R c v \/ ∃ (cs:List AV) (vs:List Value),c = .g8 cs/\v = .tuple vs.toArray/\cs.length=vs.length /\ ∀ (j:Nat) (x:AV) (u:Value),cs[j]? = some x->vs[j]? = some u->DA w R x u
theorem AkN (hm:BR B S w0 m) (l0:Bool) (R:Bool->Nat->Prop) (hR : ∀ l b,b<m.w.heap.size->safe B S m l b->R l b) (hL : ∀ s t g,live m s t->m.ν s t=some g->R l0 g)
  {c c':AV} {v:Value} (h:TS m.own l0 c=some c') (hc:CV B S m c v):DV m.w R c' v:=by
 by_cases ht : ∃ cs,c = .g8 cs
 ·obtain ⟨cs,rfl⟩:=ht
  obtain ⟨vs,rfl,hl,x8⟩:=iS hc;simp only[TS]at h;cases gx:cs.mapM (C0 m.own l0) with
  | none=>simp [gx]at h
  | some cn =>
   simp [gx]at h;subst h;obtain ⟨h1,h2⟩:=SF _ gx;refine Or.inr ⟨cn,vs,rfl,rfl,h1.symm.trans hl,λ j x u hx hu => ?_⟩;have hj:j<cs.length:=by rw[h1];exact (zS hx).1
   obtain ⟨y,hy,er⟩:=h2 j cs[j] (zE hj);rw[hx]at hy;obtain rfl:x=y:=by simpa using hy
   exact fI hm l0 R hR hL er (.ca (x8 j cs[j] u (zE hj) hu))
 ·have h':C0 m.own l0 c=some c':=by
   cases c<;>first|exact h|exact absurd ⟨_,rfl⟩ ht
  exact Or.inl (fI hm l0 R hR hL h' hc)
theorem DA.ca {B:Nat} {S:Nat->Prop} {m:M} {c:AV} {v:Value} (h:DA m.w (safe B S m) c v):CA B S m c v:=by
 rcases h with h|⟨cs,vs,rfl,rfl,hl,hh⟩
 ·exact .one (.rd h)
 ·exact .agg cs vs ⟨hl,λ j x u hx hu => .rd (hh j x u hx hu)⟩
theorem DV.cv {B:Nat} {S:Nat->Prop} {m:M} {c:AV} {v:Value} (h:DV m.w (safe B S m) c v):CV B S m c v:=by
 rcases h with h|⟨cs,vs,rfl,rfl,hl,hh⟩
 ·exact .ca h.ca
 ·exact .g8 cs vs hl λ j x u hx hu=>(hh j x u hx hu).ca
theorem QZ : ∀ {cs:List AV},BS cs -> ∀ (j:Nat) (c:AV),cs[j]? = some c->AZ c
 | [],_,j,c,h=>by simp at h
 | x::r,hc,j,c,h=>by
  unfold BS at hc;cases j with
  | zero=>simp at h;subst h;exact hc.1
  | succ j=>exact QZ hc.2 j c (by simpa using h)
theorem bN : ∀ {cs:List (List AV)},EV cs -> ∀ (j:Nat) (c:List AV),cs[j]? = some c->BS c
 | [],_,j,c,h=>by simp at h
 | x::r,hc,j,c,h=>by
  unfold EV at hc;cases j with
  | zero=>simp at h;subst h;exact hc.1
  | succ j=>exact bN hc.2 j c (by simpa using h)
theorem Rd.clean {w:World} {R R':Bool->Nat->Prop} (hR : ∀ b,b<w.heap.size->R false b->R' false b) {c:AV} {v:Value} (h:Rd w R c v) (hc:AZ c):Rd w R' c v:=by
 induction h with
 | int k n=>exact .int k n
 | bool b=>exact .bool b
 | str s=>exact .str s
 | jk=>exact .jk
 | gu l a cap=>exact .gu l a cap
 | emp b a cap h=>exact .emp b a cap h
 | sl l es b o b8 cap u l9 hp h1 ag hz n6 hr ih =>
  unfold AZ at hc;obtain ⟨rfl,hc⟩:=hc;obtain ⟨e,c,he,ep⟩:=YY l9 hp hz;have hb:b<w.heap.size:=UF (n6 0 e he 0 c ep);exact .sl false es b o b8 cap u l9 hp (hR b hb h1) ag hz n6 λ i e he j c hj=>ih i e he j c hj (QZ (bN hc i e he) j c hj)
theorem DA.clean {w:World} {R R':Bool->Nat->Prop} (hR : ∀ b,b<w.heap.size->R false b->R' false b) {c:AV} {v:Value} (h:DA w R c v) (hc:AZ c):DA w R' c v:=by
 rcases h with h|⟨cs,vs,rfl,rfl,hl,hh⟩
 ·exact Or.inl (h.clean hR hc)
 ·unfold AZ at hc
  exact Or.inr ⟨cs,vs,rfl,rfl,hl,λ j x u hx hu=>(hh j x u hx hu).clean hR (QZ hc j x hx)⟩
theorem DV.clean {w:World} {R R':Bool->Nat->Prop} (hR : ∀ b,b<w.heap.size->R false b->R' false b) {c:AV} {v:Value} (h:DV w R c v) (hc:AZ c):DV w R' c v:=by
 rcases h with h|⟨cs,vs,rfl,rfl,hl,hh⟩
 ·exact Or.inl (h.clean hR hc)
 ·unfold AZ at hc
  exact Or.inr ⟨cs,vs,rfl,rfl,hl,λ j x u hx hu=>(hh j x u hx hu).clean hR (QZ hc j x hx)⟩
theorem iR {B:Nat} {S:Nat->Prop} {m:M} {c:AV} {v:Value} (h:CV B S m c v) (hc:AZ c):DV m.w (safe B S m) c v:=by
 have one : ∀ {c:AV} {v:Value},CC B S m c v->AZ c->Rd m.w (safe B S m) c v:=λ h hc=>by
  cases h with
  | rd h=>exact h
  | _=>unfold AZ at hc;exact hc.elim
 have ca : ∀ {c:AV} {v:Value},CA B S m c v->AZ c->DA m.w (safe B S m) c v:=λ h hc=>by
  cases h with
  | one h=>exact Or.inl (one h hc)
  | fn=>unfold AZ at hc;exact hc.elim
  | qh=>unfold AZ at hc;exact hc.elim
  | agg cs vs h =>
   unfold AZ at hc;exact Or.inr ⟨cs,vs,rfl,rfl,h.1,λ j x u hx hu=>one (h.2 j x u hx hu) (QZ hc j x hx)⟩
 cases h with
 | any v=>unfold AZ at hc;exact hc.elim
 | ca h=>exact Or.inl (ca h hc)
 | g8 as vs hl h =>
  unfold AZ at hc;exact Or.inr ⟨as,vs,rfl,rfl,hl,λ j x u hx hu=>ca (h j x u hx hu) (QZ hc j x hx)⟩
theorem eJ {f:Nat} {xs:Array Operand} {ts:Array TypeId} (k9:o.op = .call ⟨.value (.func f),xs,ts⟩) {w:World} (h:(callFunc f (xs.map a.eval)).run P w = .ok (.enter f (xs.map a.eval)) w):(execOp a.eval o).run P w = .ok (.enter f (xs.map a.eval)) w:=by
 simp [execOp,k9,resolve,Deferred.ofValue,Act.eval,invoke];exact h
theorem sM {C:Cl} (hC:H6 P num C) (hm:BR B S w0 m) {f:Nat} {us:List Value} {as:List AV} (hl:us.length=as.length) (hx : ∀ (j:Nat) (v:Value) (c:AV),us[j]? = some v->as[j]? = some c->CV B S m c v) (hex : ∀ w:World,(callFunc (num f) us.toArray).run P w = .ok (.enter (num f) us.toArray) w->(execOp a.eval o).run P w = .ok (.enter (num f) us.toArray) w) {vs:List AV} {r:AV} (hv:as.mapM (C0 m.own true)=some vs) (hr:C.pure f vs=some r):CY B S w0 P o a m (.val r):=by
 obtain ⟨du,iu⟩:=SF _ hv;have im : ∀ (j:Nat) (c:AV) (v:Value),vs[j]? = some c->us[j]? = some v->CA m.w.heap.size (safe B S m false) ⟨λ_ _=>none,AJ.emp,m.w⟩ c v:=by
  intro j c v hc px;have di:j<as.length:=by rw[<-hl];exact (zS px).1
  obtain ⟨y,hy,er⟩:=iu j as[j] (zE di);rw[hc]at hy;obtain rfl:c=y:=by simpa using hy
  have v9:=hx j v as[j] px (zE di);have yj:=fI hm true (safe m.w.heap.size (safe B S m false) ⟨λ_ _=>none,AJ.emp,m.w⟩) (λ l b hb uz=>by
   cases l with
   | false=>exact .inl ⟨uz,hb⟩
   | true=>exact .inr (.inr ⟨rfl,hb⟩)) (λ s t g fi hg=>by
   obtain ⟨_,arr,e,hh⟩:=hm.ge fi hg;exact .inr (.inr ⟨rfl,(Array.getElem?_eq_some_iff.1 hh).1⟩)) er v9
  exact DA.ca (m:=⟨λ_ _=>none,AJ.emp,m.w⟩) yj
 have db:=hC.pure f vs r hr (safe B S m false) m.w us (by rw[<-du];exact hl.symm) im;intro K Q hK;unfold Oper.wp;rw[hex _ (hC.qg f vs r hr _ _)];refine Calls.mono db λ e w' ⟨u,fh,gd,v9,n6⟩ => ?_
 subst fh;obtain ⟨jr,dt⟩:=grow hm gd;refine hK u ⟨m.ν,m.own,w'⟩ rfl jr dt ?_;refine DV.cv (m:=⟨m.ν,m.own,w'⟩) ((iR v9 n6).clean (λ b hb uz => ?_) n6);rcases uz with ⟨h1,h2⟩|⟨h1,_⟩|⟨h1,_⟩
 ·exact dt.xg false b h2 h1
 ·refine .inr (.inl ⟨Nat.le_trans hm.size h1,λ s t fi hg => ?_⟩)
  obtain ⟨b',k8⟩:=Option.isSome_iff_exists.1 fi;obtain ⟨_,arr,e,hh⟩:=hm.ge ⟨b',k8⟩ hg;have:=(Array.getElem?_eq_some_iff.1 hh).1
  omega
 ·cases h1
theorem sL {C:Cl} (hC:H6 P num C) (hm:BR B S w0 m) (hs:CU B S m ρ a.eval) {f:Nat} {xs:Array Operand} {n0:List AU} (he:EX xs.toList n0=true) (hex : ∀ w:World,(callFunc (num f) (xs.map a.eval)).run P w = .ok (.enter (num f) (xs.map a.eval)) w->(execOp a.eval o).run P w = .ok (.enter (num f) (xs.map a.eval)) w) {vs:List AV} {r:AV} (hv:(n0.map ρ).mapM (C0 m.own true)=some vs) (hr:C.pure f vs=some r):CY B S w0 P o a m (.val r):=by
 obtain ⟨hl,hx⟩:=UN hs he;have dw:(xs.map a.eval)=(xs.toList.map a.eval).toArray:=by cases xs;simp
 rw[dw]at hex;refine sM hC hm (us:=xs.toList.map a.eval) (as:=n0.map ρ) (by simp [hl]) (λ j v c h1 h2 => ?_) hex hv hr;rw[List.getElem?_map]at h1 h2;cases ix:xs.toList[j]? with
 | none=>simp [ix]at h1
 | some x =>
  cases mc:n0[j]? with
  | none=>simp [mc]at h2
  | some y =>
   simp only[ix,mc,Option.map_some,Option.some.injEq]at h1 h2;subst h1 h2;exact hx j x y ix mc
theorem Afk {C:Cl} (hC:H6 P num C) (hm:BR B S w0 m) (hs:CU B S m ρ a.eval) {f:Nat} {n0:List AU} (h:BD P num o.op (.call f n0)=true) {vs:List AV} {r:AV} (hv:(n0.map ρ).mapM (C0 m.own true)=some vs) (hr:C.pure f vs=some r):CY B S w0 P o a m (.val r):=by
 obtain ⟨xs,ts,k9,he⟩:=lH h;exact sL hC hm hs he (λ w h=>eJ k9 h) hv hr
theorem sI {C:Cl} (hC:H6 P num C) (hm:BR B S w0 m) (hs:CU B S m ρ a.eval) {f:Nat} {n0:List AU} (h:BD P num o.op (.g6 f n0)=true) {r:AV} {l8:AJ} (hr:C.fm f (n0.map ρ) m.own=some (r,l8)):CY B S w0 P o a m (.bn r l8):=by
 obtain ⟨xs,ts,k9,he⟩:=Aip h;obtain ⟨hl,hx⟩:=UN hs he;have dw:(xs.map a.eval)=(xs.toList.map a.eval).toArray:=by cases xs;simp
 have db:=hC.fm f (n0.map ρ) m.own r l8 hr B S w0 m (xs.toList.map a.eval) rfl hm (by simp [hl]) (λ j c v hc hv=>by
  rw[List.getElem?_map]at hc hv;cases ix:xs.toList[j]? with
  | none=>simp [ix]at hv
  | some x =>
   cases mc:n0[j]? with
   | none=>simp [mc]at hc
   | some y =>
    simp [ix]at hv;simp [mc]at hc;subst hv hc;exact hx j x y ix mc)
 intro K Q hK;unfold Oper.wp;rw[eJ k9 (hC.ml f _ _ _ hr _ _),dw];refine Calls.mono db λ e w' ⟨u,m',fh,hw,k6,jr,dt,v9⟩ => ?_
 subst fh hw;exact hK u m' k6 jr dt v9
theorem Za (hm:BR B S w0 m) {w':World} (hb:Below m.w.heap.size m.w w') (s:Nat) (b:ES) (gg:Option Nat) (hz : ∀ x∈b.es,x.length=b.b8)
  (hg:match gg with|none=>b.es=[]|some g=>m.w.heap.size<=g /\ ∃ arr e,w'.heap[g]? = some (.cells arr e (0,0)) /\ ∀ i cs,b.es[i]? = some cs -> ∀ j c,cs[j]? = some c -> ∃ u,arr[i*b.b8+j]? = some u/\CC B S ⟨j5 m s gg,m.own.put s ((m.own s).new b),w'⟩ c u) :
  BR B S w0 ⟨j5 m s gg,m.own.put s ((m.own s).new b),w'⟩/\DS B S m ⟨j5 m s gg,m.own.put s ((m.own s).new b),w'⟩:=by
 have hν : ∀ s' t',live m s' t'->j5 m s gg s' t'=m.ν s' t':=λ s' t' hl=>by
  unfold j5;rw[if_neg];rintro ⟨rfl,rfl⟩
  exact dJ hm _ hl
 have km : ∀ g,gg=some g->m.w.heap.size<=g:=λ g e=>by subst e;exact hg.1
 have he:DS B S m ⟨j5 m s gg,m.own.put s ((m.own s).new b),w'⟩:=by
  refine UT hm hb.size (λ k hk _=>hb.block k hk) (λ s' => ?_) (λ s' t' b' ht k8 => ?_) (λ s' t' g hl cq j9 => ?_)
  ·rw[L4];split
   ·rename_i h;subst h;omega
   ·exact Nat.le_refl _
  ·rw[HD]at k8
   rw[if_neg (by rintro ⟨rfl,rfl⟩;omega)]at k8;refine ⟨b',k8,rfl,hν s' t' ⟨b',k8⟩,λ g ar e' cq ha=>⟨ar,?_,rfl⟩⟩;exact (hb.block g (Array.getElem?_eq_some_iff.1 ha).1).trans ha
  ·obtain ⟨b',k8⟩:=hl
   rw[HD]at k8;by_cases h:s'=s/\t'=m.own.g9 s
   ·simp only[j5,if_pos h]at cq
    have:=km g cq
    omega
   ·rw[if_neg h]at k8
    exact ⟨s',t',⟨b',k8⟩,by rw[<-hν s' t' ⟨b',k8⟩];exact cq⟩
 refine ⟨⟨hm.below.trans (hb.mono hm.size),Nat.le_trans hm.size hb.size,λ s' t' ht => ?_,λ s' t' b' k8 => ?_,λ s1 t1 s2 t2 b1 b2 g h1 h2 g1 g2 => ?_⟩,he⟩
 ·rw[L4]at ht
  rw[HD,if_neg]
  ·refine hm.fresh s' t' ?_
   split at ht
   ·rename_i h;subst h;omega
   ·exact ht
  ·rintro ⟨rfl,rfl⟩
   simp at ht;omega
 ·rw[HD]at k8
  by_cases h:s'=s/\t'=m.own.g9 s
  ·rw[if_pos h]at k8
   obtain rfl:b=b':=by simpa using k8
   refine ⟨hz,?_⟩;show match j5 m s gg s' t' with|none=>_|some g=>_
   rw[show j5 m s gg s' t'=gg by simp [j5,h]];cases gg with
   | none=>exact hg
   | some g=>exact ⟨Nat.le_trans hm.size hg.1,hg.2⟩
  ·rw[if_neg h]at k8
   obtain ⟨h1,h2⟩:=hm.e8 s' t' b' k8;refine ⟨h1,?_⟩;show match j5 m s gg s' t' with|none=>_|some g=>_
   rw[hν s' t' ⟨b',k8⟩];cases hv:m.ν s' t' with
   | none=>rw[hv]at h2;exact h2
   | some g =>
    rw[hv]at h2;obtain ⟨h3,ar,e',h4,h5⟩:=h2;refine ⟨h3,ar,e',(hb.block g (Array.getElem?_eq_some_iff.1 h4).1).trans h4,λ i cs hi j c hj => ?_⟩;obtain ⟨u,hu,x8⟩:=h5 i cs hi j c hj;exact ⟨u,hu,he.cc x8⟩
 ·rw[HD]at h1 h2
  have lt : ∀ s' t' b',m.own.get s' t'=some b'->j5 m s gg s' t'=some g->g<m.w.heap.size:=λ s' t' b' k8 cq=>by
   rw[hν s' t' ⟨b',k8⟩]at cq;obtain ⟨_,ar,e',h4⟩:=hm.ge ⟨b',k8⟩ cq;exact (Array.getElem?_eq_some_iff.1 h4).1
  have at_ : ∀ s' t',s'=s/\t'=m.own.g9 s->j5 m s gg s' t'=some g->m.w.heap.size<=g:=λ s' t' h cq=>by
   simp only[j5,if_pos h]at cq;exact km g cq
  by_cases p1:s1=s/\t1=m.own.g9 s<;>by_cases p2:s2=s/\t2=m.own.g9 s
  ·exact ⟨p1.1.trans p2.1.symm,p1.2.trans p2.2.symm⟩
  ·rw[if_neg p2]at h2
   have:=lt s2 t2 b2 h2 g2
   have:=at_ s1 t1 p1 g1
   omega
  ·rw[if_neg p1]at h1
   have:=lt s1 t1 b1 h1 g1
   have:=at_ s2 t2 p2 g2
   omega
  ·rw[if_neg p1]at h1
   rw[if_neg p2]at h2;exact hm.inj s1 t1 s2 t2 b1 b2 g h1 h2 (by rw[<-hν s1 t1 ⟨b1,h1⟩];exact g1) (by rw[<-hν s2 t2 ⟨b2,h2⟩];exact g2)
theorem Afo {C:Cl} (hC:H6 P num C) (hm:BR B S w0 m) (hs:CU B S m ρ a.eval) {s f:Nat} {n0:List AU} (h:BD P num o.op (.o5 s f n0)=true) {vs:List AV} (hv:(n0.map ρ).mapM (RK m.own true)=some vs) {z:Nat} {es:List (List AV)} (hr:QV (C.fm f vs AJ.emp)=some (z,es)) :
  CY B S w0 P o a m (.new s ⟨z,es⟩ (λ t => .row s t z 0 es.length)):=by
 obtain ⟨xs,ts,k9,he⟩:=lH (Air h);obtain ⟨s0,t0,o',b0,Dh,n7,rfl,n6⟩:=Yz hr;obtain ⟨hl,hx⟩:=UN hs he;obtain ⟨du,iu⟩:=SF _ hv;have dw:(xs.map a.eval)=(xs.toList.map a.eval).toArray:=by cases xs;simp
 have im : ∀ (j:Nat) (c:AV) (v:Value),vs[j]? = some c->(xs.toList.map a.eval)[j]? = some v->CV m.w.heap.size (safe B S m false) ⟨λ_ _=>none,AJ.emp,m.w⟩ c v:=by
  intro j c v hc px;rw[List.getElem?_map]at px;cases ix:xs.toList[j]? with
  | none=>simp [ix]at px
  | some x =>
   simp [ix]at px;subst px;have di:j<n0.length:=by rw[<-hl];exact (zS ix).1
   obtain ⟨y,hy,er⟩:=iu j (ρ n0[j]) (by rw[List.getElem?_map,zE di];rfl);rw[hc]at hy;obtain rfl:c=y:=by simpa using hy
   have v9:=hx j x n0[j] ix (zE di);have hN:(ρ n0[j] = .nil/\c = .nil)\/C0 m.own true (ρ n0[j])=some c:=by
    cases e:ρ n0[j] with
    | nil=>rw[e]at er;exact .inl ⟨rfl,(Option.some.inj er).symm⟩
    | _=>rw[e]at er;exact .inr er
   rcases hN with ⟨e1,rfl⟩|er
   ·rw[e1]at v9
    rw[V8 v9];exact .ca (.one .nil)
   have yj:=fI hm true (safe m.w.heap.size (safe B S m false) ⟨λ_ _=>none,AJ.emp,m.w⟩) (λ l b hb uz=>by
    cases l with
    | false=>exact .inl ⟨uz,hb⟩
    | true=>exact .inr (.inr ⟨rfl,hb⟩)) (λ s t g fi hg=>by
    obtain ⟨_,arr,e,hh⟩:=hm.ge fi hg;exact .inr (.inr ⟨rfl,(Array.getElem?_eq_some_iff.1 hh).1⟩)) er v9
   exact .ca (DA.ca (m:=⟨λ_ _=>none,AJ.emp,m.w⟩) yj)
 have hm0:BR m.w.heap.size (safe B S m false) m.w ⟨λ_ _=>none,AJ.emp,m.w⟩:=⟨Below.refl _ _,Nat.le_refl _,λ_ _ _=>rfl,(λ s t b h=>by cases h),(λ_ _ _ _ _ _ _ h=>by cases h)⟩;have db:=hC.fm f vs AJ.emp _ o' Dh m.w.heap.size (safe B S m false) m.w ⟨λ_ _=>none,AJ.emp,m.w⟩ (xs.toList.map a.eval) rfl hm0 (by rw[<-du];simp [hl]) im;intro K Q hK;unfold Oper.wp;rw[eJ k9 (hC.ml f _ _ _ Dh _ _),dw];refine Calls.mono db λ e w' ⟨u,m',fh,hw,k6,jr,Tl,v9⟩ => ?_
 subst fh hw;have gd:Below m.w.heap.size m.w m'.w:=jr.below;rw[<-k6]at n7;obtain ⟨hz,kb⟩:=jr.e8 s0 t0 b0 n7;obtain ⟨ad,cap,rfl,ht,bk,ia,ha,hb⟩:=V9 v9;obtain ⟨gq,cr⟩:=hb b0 n7;subst gq;have hold : ∀ s t g,live m s t->m.ν s t=some g->g<m.w.heap.size:=λ s t g fi hg=>by
  obtain ⟨_,arr,e,hh⟩:=hm.ge fi hg;exact (Array.getElem?_eq_some_iff.1 hh).1
 have yv : ∀ s' t' g,live ⟨j5 m s (m'.ν s0 t0),m.own.put s ((m.own s).new ⟨b0.b8,b0.es⟩),m'.w⟩ s' t'->j5 m s (m'.ν s0 t0) s' t'=some g->g<m.w.heap.size\/m'.ν s0 t0=some g:=λ s' t' g fi hg=>by
  obtain ⟨b',k8⟩:=fi;rw[HD]at k8;by_cases k7:s'=s/\t'=m.own.g9 s
  ·simp only[j5,if_pos k7]at hg
   exact Or.inr hg
  ·rw[if_neg k7]at k8
   simp only[j5,if_neg k7]at hg;exact Or.inl (hold s' t' g ⟨b',k8⟩ hg)
 have hR : ∀ b,b<m'.w.heap.size->safe m.w.heap.size (safe B S m false) m' false b->safe B S ⟨j5 m s (m'.ν s0 t0),m.own.put s ((m.own s).new ⟨b0.b8,b0.es⟩),m'.w⟩ false b:=λ b Aj uz=>by
  rcases uz with ⟨h1,h2⟩|⟨h1,h2⟩|⟨h1,_⟩
  ·rcases h1 with h1|⟨h1,h3⟩|⟨h1,_⟩
   ·exact .inl h1
   ·refine .inr (.inl ⟨h1,λ s' t' fi hg => ?_⟩)
    obtain ⟨b',k8⟩:=Option.isSome_iff_exists.1 fi;have u5:=k8;rw[HD]at u5;by_cases k7:s'=s/\t'=m.own.g9 s
    ·simp only[j5,if_pos k7]at hg
     rw[hg]at kb;have:=kb.1
     omega
    ·rw[if_neg k7]at u5
     simp only[j5,if_neg k7]at hg;exact h3 s' t' (by rw[u5];rfl) hg
   ·cases h1
  ·refine .inr (.inl ⟨Nat.le_trans hm.size h1,λ s' t' fi hg => ?_⟩)
   rcases yv s' t' b (Option.isSome_iff_exists.1 fi) hg with h3|h3
   ·omega
   ·exact h2 s0 t0 (by rw[n7];rfl) h3
  ·cases h1
 obtain ⟨je,dt⟩:=Za hm gd s ⟨b0.b8,b0.es⟩ (m'.ν s0 t0) hz (by
  cases hν:m'.ν s0 t0 with
  | none=>rw[hν]at kb;exact kb
  | some g =>
   rw[hν]at kb hR;obtain ⟨h1,arr,e,h2,h3⟩:=kb;refine ⟨h1,arr,e,h2,λ i cs hi j c hj => ?_⟩;obtain ⟨u,hu,x8⟩:=h3 i cs hi j c hj;refine ⟨u,hu,.rd ?_⟩;have uh:=QZ (bN n6 i cs hi) j c hj;have jt:Rd m'.w (safe m.w.heap.size (safe B S m false) m') c u:=by
    cases x8 with
    | rd h=>exact h
    | _=>unfold AZ at uh;exact uh.elim
   exact jt.clean hR uh)
 refine hK _ ⟨j5 m s (m'.ν s0 t0),m.own.put s ((m.own s).new ⟨b0.b8,b0.es⟩),m'.w⟩ rfl je dt (.ca (.one (.row s (m.own.g9 s) b0.b8 0 b0.es.length ad cap (by show m.own.g9 s<AJ.g9 (m.own.put s _) s;rw[L4,if_pos rfl];omega) bk ia ha λ b1 ug => ?_)));have Co:(m.own.put s ((m.own s).new ⟨b0.b8,b0.es⟩)).get s (m.own.g9 s)=some b1:=ug;rw[HD,if_pos ⟨rfl,rfl⟩]at Co;obtain rfl:=Option.some.inj Co;refine ⟨rfl,?_⟩;rcases cr with h0|⟨g,arr,e,hg,jb,hh,hle⟩
 ·exact .inl h0
 ·exact .inr ⟨g,arr,e,by simp [j5,hg],jb,hh,hle⟩
theorem rV {p:Bool} {f g:Nat} {cs:List AV} {v:Value} (h:CV B S m (.fn p f g cs) v) (hp:p=false\/cs=[]) : ∃ vs:List Value,v = .func (.func g) #[] vs.toArray/\CL B S m cs vs:=by
 cases h with
 | ca h=>cases h with
  | one h=>cases h with
   | rd h=>cases h
  | fn p f g cs vs hp h=>exact ⟨vs,rfl,h⟩
  | qh f g cs vs l9 h =>
   rcases hp with hp|hp
   ·cases hp
   ·exact absurd hp l9
theorem AeL {f g:Nat} {cs:List AV} {v:Value} (h:CV B S m (.fn true f g cs) v) (l9:cs≠[]) : ∃ vs:List Value,v = .func (.func g) #[.agg vs.toArray] #[]/\CL B S m cs vs:=by
 cases h with
 | ca h=>cases h with
  | one h=>cases h with
   | rd h=>cases h
  | fn p f g cs vs hp h=>exact absurd (hp rfl) l9
  | qh f g cs vs l9 h=>exact ⟨vs,rfl,h⟩
theorem Mu {f:Nat} {x:Operand} {xs:Array Operand} {ts:Array TypeId} {vs:Array Value} (k9:o.op = .call ⟨.value x,xs,ts⟩) (hx:a.eval x = .func (.func f) #[] vs) {w:World} (h:(callFunc f (xs.map a.eval++vs)).run P w = .ok (.enter f (xs.map a.eval++vs)) w):(execOp a.eval o).run P w = .ok (.enter f (xs.map a.eval++vs)) w:=by
 simp [execOp,k9,resolve,Deferred.ofValue,hx,invoke];exact h
theorem Afp {C:Cl} (hC:H6 P num C) (hm:BR B S w0 m) (hs:CU B S m ρ a.eval) {x':AU} {n0:List AU} (h:BD P num o.op (.m8 x' n0)=true) {f:Nat} {cs:List AV} (hf:ρ x' = .fn false f (num f) cs) {r:AV} {l8:AJ} (hr:C.fm f (n0.map ρ++cs) m.own=some (r,l8)):CY B S w0 P o a m (.bn r l8):=by
 obtain ⟨x,xs,ts,k9,na,he⟩:=lI h;obtain ⟨hl,hx⟩:=UN hs he;obtain ⟨vs,hv,n6⟩:=rV (hf ▸ hs x x' na) (.inl rfl);have dw:(xs.map a.eval++vs.toArray)=(xs.toList.map a.eval++vs).toArray:=by cases xs;simp
 have db:=hC.fm f (n0.map ρ++cs) m.own r l8 hr B S w0 m (xs.toList.map a.eval++vs) rfl hm (by simp [hl,n6.1]) (λ j c v hc hv=>by
  by_cases hj:j<n0.length
  ·rw[List.getElem?_append_left (by simpa using hj),List.getElem?_map]at hc
   rw[List.getElem?_append_left (by simpa [hl] using hj),List.getElem?_map]at hv;have Ao:j<xs.toList.length:=by rw[hl];exact hj
   rw[zE hj]at hc;rw[zE Ao]at hv;simp only[Option.map_some,Option.some.injEq]at hc hv;subst hc hv;exact hx j _ _ (zE Ao) (zE hj)
  ·rw[List.getElem?_append_right (by simpa using hj),List.length_map]at hc
   rw[List.getElem?_append_right (by simpa [hl] using hj),List.length_map,hl]at hv;exact .ca (.one (n6.2 _ c v hc hv)))
 intro K Q hK;unfold Oper.wp;rw[Mu k9 hv (hC.ml f _ _ _ hr _ _),dw];refine Calls.mono db λ e w' ⟨u,m',fh,hw,k6,jr,dt,v9⟩ => ?_
 subst fh hw;exact hK u m' k6 jr dt v9
theorem Afm {C:Cl} (hC:H6 P num C) (hm:BR B S w0 m) (hs:CU B S m ρ a.eval) {x':AU} {n0:List AU} (h:BD P num o.op (.m8 x' n0)=true) {f:Nat} (hf:ρ x' = .fn true f (num f) []) {vs:List AV} {r:AV} (hv:(n0.map ρ).mapM (C0 m.own true)=some vs) (hr:C.pure f vs=some r):CY B S w0 P o a m (.val r):=by
 obtain ⟨x,xs,ts,k9,na,he⟩:=lI h;obtain ⟨us,hu,n6⟩:=rV (hf ▸ hs x x' na) (.inr rfl);have Eh:us=[]:=List.eq_nil_of_length_eq_zero (by rw[<-n6.1];rfl);subst Eh;refine sL hC hm hs he (λ w h => ?_) hv hr;have:=Mu (P:=P) (w:=w) k9 hu (by simpa using h)
 simpa using this
theorem Ako {f:Nat} {x:Operand} {xs:Array Operand} {ts:Array TypeId} {u:Value} (k9:o.op = .call ⟨.value x,xs,ts⟩) (hx:a.eval x = .func (.func f) #[u] #[]) {w:World} (h:(callFunc f (#[u]++xs.map a.eval)).run P w = .ok (.enter f (#[u]++xs.map a.eval)) w):(execOp a.eval o).run P w = .ok (.enter f (#[u]++xs.map a.eval)) w:=by
 simp [execOp,k9,resolve,Deferred.ofValue,hx,invoke];exact h
theorem Afl {C:Cl} (hC:H6 P num C) (hm:BR B S w0 m) (hs:CU B S m ρ a.eval) {x':AU} {n0:List AU} (h:BD P num o.op (.m8 x' n0)=true) {f:Nat} {c:AV} {cs:List AV} (hf:ρ x' = .fn true f (num f) (c::cs)) {vs:List AV} {r:AV} (hv:(AV.agg (c::cs)::n0.map ρ).mapM (C0 m.own true)=some vs) (hr:C.pure f vs=some r):CY B S w0 P o a m (.val r):=by
 obtain ⟨x,xs,ts,k9,na,he⟩:=lI h;obtain ⟨us,hu,n6⟩:=AeL (hf ▸ hs x x' na) (by simp);obtain ⟨hl,hx⟩:=UN hs he;have dw:(#[Value.agg us.toArray]++xs.map a.eval)=(Value.agg us.toArray::xs.toList.map a.eval).toArray:=by cases xs;simp
 refine sM hC hm (us:=Value.agg us.toArray::xs.toList.map a.eval) (as:=AV.agg (c::cs)::n0.map ρ) (by simp [hl]) (λ j v c' h1 h2 => ?_) (λ w h=>by
  rw[<-dw]at h ⊢;exact Ako k9 hu h) hv hr
 cases j with
 | zero =>
  simp only[List.getElem?_cons_zero,Option.some.injEq]at h1 h2;subst h1 h2;exact .ca (.agg _ _ n6)
 | succ j =>
  rw[List.getElem?_cons_succ,List.getElem?_map]at h1 h2;cases ix:xs.toList[j]? with
  | none=>simp [ix]at h1
  | some x =>
   cases mc:n0[j]? with
   | none=>simp [mc]at h2
   | some y =>
    simp only[ix,mc,Option.map_some,Option.some.injEq]at h1 h2;subst h1 h2;exact hx j x y ix mc
theorem Rd.to1 {w:World} {R R':Bool->Nat->Prop} (hR : ∀ l b,b<w.heap.size->R l b -> ∀ l',R' l' b) {c:AV} {v:Value} (h:Rd w R c v) (hq:HM c=true):Rd w R' (XF c) v:=by
 cases h with
 | int k n=>exact .int k n
 | bool b=>exact .bool b
 | str s=>simp [HM]at hq
 | jk=>simp [HM]at hq
 | emp=>simp [HM]at hq
 | gu l a cap=>exact .gu false a cap
 | sl l es b o b8 cap u l9 hp h1 ag hz n6 hr =>
  obtain ⟨e,c,he,ep⟩:=YY l9 hp hz;have hb:b<w.heap.size:=UF (n6 0 e he 0 c ep);exact .sl false es b o b8 cap u l9 hp (hR l b hb h1 false) ag hz n6 λ i e he j c hj=>(hr i e he j c hj).mono (λ l b hb h=>hR l b hb h l) (λ_ _ _ _=>rfl)
theorem Rd.vn {w:World} {R R':Bool->Nat->Prop} (hR : ∀ b,b<w.heap.size->R false b->R' true b) {c:AV} {v:Value} (h:Rd w R c v) (hc:AZ c) (hf:XT c):Rd w R' (Y9 c) v:=by
 cases h with
 | int k n=>exact .int k n
 | bool b=>exact .bool b
 | str s=>exact hf.elim
 | jk=>exact hf.elim
 | emp=>exact hf.elim
 | gu l a cap=>exact .gu true a cap
 | sl l es b o b8 cap u l9 hp h1 ag hz n6 hr =>
  unfold AZ at hc;obtain ⟨rfl,hc⟩:=hc;obtain ⟨e,c,he,ep⟩:=YY l9 hp hz;have hb:b<w.heap.size:=UF (n6 0 e he 0 c ep);refine .sl true es b o b8 cap u l9 hp (hR b hb h1) ag hz n6 λ i e he j c hj => ?_
  have Ki:=hf e (zM he) c (zM hj);have zl:=hr i e he j c hj;generalize u i j=vv at zl ⊢;cases zl<;>first|exact .int _ _|exact .bool _|(simp [mE]at Ki)
theorem lM : ∀ l:List AV,IR l=l.map HO
 | []=>by simp [IR]
 | c::r=>by rw[IR,lM r];rfl
theorem yO : ∀ l:List (List AV),KV l=l.map λ e=>e.map HO
 | []=>by simp [KV]
 | c::r=>by rw[KV,yO r,lM];rfl
theorem Rd.vo {w:World} {R R':Bool->Nat->Prop} (hR : ∀ b,b<w.heap.size->R false b->R' true b) {c:AV} {v:Value} (h:Rd w R c v):AZ c->Rd w R' (HO c) v:=by
 induction h with
 | int k n=>intro _;exact .int k n
 | bool b=>intro _;exact .bool b
 | str s=>intro _;exact .str s
 | jk=>intro _;exact .jk
 | emp b a cap h=>intro _;exact .emp b a cap h
 | gu l a cap=>intro _;exact .gu true a cap
 | sl l es b o b8 cap u l9 hp h1 ag hz n6 hr ih =>
  intro hc;unfold AZ at hc;obtain ⟨rfl,hc⟩:=hc;obtain ⟨e,c,he,ep⟩:=YY l9 hp hz;have hb:b<w.heap.size:=UF (n6 0 e he 0 c ep);have iq : ∀ (i:Nat) (e':List AV),(es.map λ e:List AV=>e.map HO)[i]? = some e' -> ∃ e,es[i]? = some e/\e'=e.map HO:=λ i e' h=>by
   rw[List.getElem?_map]at h;cases hi:es[i]? with
   | none=>simp [hi]at h
   | some e=>exact ⟨e,rfl,by simpa [hi] using h.symm⟩
  have Cm : ∀ (e:List AV) (j:Nat) (c':AV),(e.map HO)[j]? = some c' -> ∃ c,e[j]? = some c/\c'=HO c:=λ e j c' h=>by
   rw[List.getElem?_map]at h;cases hi:e[j]? with
   | none=>simp [hi]at h
   | some c=>exact ⟨c,rfl,by simpa [hi] using h.symm⟩
  have key:=Rd.sl (w:=w) (R:=R') true (es.map λ e:List AV=>e.map HO) b o b8 cap u (by simpa using l9) hp (hR b hb h1) (by simpa using ag)
   (λ e' fh=>by
    obtain ⟨e,he,rfl⟩:=List.mem_map.1 fh;rw[List.length_map];exact hz e he)
   (λ i e' hi j c' hj=>by
    obtain ⟨e,he,rfl⟩:=iq i e' hi;obtain ⟨c,Ak,rfl⟩:=Cm e j c' hj;exact n6 i e he j c Ak)
   (λ i e' hi j c' hj=>by
    obtain ⟨e,he,rfl⟩:=iq i e' hi;obtain ⟨c,Ak,rfl⟩:=Cm e j c' hj;exact ih i e he j c Ak (QZ (bN hc i e he) j c Ak))
  rw[List.length_map]at key;rw[HO,yO];exact key
theorem Afn {C:Cl} (hC:H6 P num C) (hm:BR B S w0 m) (hs:CU B S m ρ a.eval) {f:Nat} {n0:List AU} (h:BD P num o.op (.m5 f n0)=true) (hq:(n0.map ρ).all dq=true) {r:AV} (hr:C.pure f ((n0.map ρ).map tn)=some r) (Jv:JG r\/T3 r):CY B S w0 P o a m (.val (MV r)):=by
 obtain ⟨xs,ts,k9,he⟩:=lH (Aiq h);obtain ⟨hl,hx⟩:=UN hs he;have dw:(xs.map a.eval)=(xs.toList.map a.eval).toArray:=by cases xs;simp
 have hR : ∀ l b,b<m.w.heap.size->safe B S m l b -> ∀ l',safe m.w.heap.size (safe B S m true) ⟨λ_ _=>none,AJ.emp,m.w⟩ l' b:=λ l b hb h l' => .inl ⟨nD h,hb⟩
 have hcell : ∀ (c:AV) (v:Value),CC B S m c v->HM c=true->Rd m.w (safe m.w.heap.size (safe B S m true) ⟨λ_ _=>none,AJ.emp,m.w⟩) (XF c) v:=λ c v hc hd=>by
  cases hc with
  | rd hr=>exact hr.to1 hR hd
  | nil=>exact .gu false none 0
  | row=>simp [HM]at hd
  | ptr=>simp [HM]at hd
  | u6=>simp [HM]at hd
 have im : ∀ (j:Nat) (c:AV) (v:Value),((n0.map ρ).map tn)[j]? = some c->(xs.toList.map a.eval)[j]? = some v->CA m.w.heap.size (safe B S m true) ⟨λ_ _=>none,AJ.emp,m.w⟩ c v:=by
  intro j c v hc px;rw[List.getElem?_map,List.getElem?_map]at hc;rw[List.getElem?_map]at px;cases ix:xs.toList[j]? with
  | none=>simp [ix]at px
  | some x =>
   cases mc:n0[j]? with
   | none=>simp [mc]at hc
   | some y =>
    simp [ix]at px;simp [mc]at hc;subst px hc;have v9:=hx j x y ix mc;have hd:dq (ρ y)=true:=List.all_eq_true.1 hq _ (List.mem_map_of_mem (zM mc));generalize ρ y=cy at v9 hd ⊢;generalize a.eval x=vx at v9 ⊢;cases v9 with
    | any=>simp [dq,HM]at hd
    | g8=>simp [dq,HM]at hd
    | ca om =>
     cases om with
     | one vy =>
      have ki:HM cy=true/\tn cy=XF cy:=by
       cases vy with
       | rd hr=>cases hr<;>exact ⟨hd,rfl⟩
       | _=>exact ⟨hd,rfl⟩
      rw[ki.2];exact .one (.rd (hcell _ _ vy ki.1))
     | agg cs vs n6 =>
      refine .agg (cs.map XF) vs ⟨by simpa using n6.1,λ k c' v' s9 fc => ?_⟩;rw[List.getElem?_map]at s9;cases mo:cs[k]? with
      | none=>simp [mo]at s9
      | some c0 =>
       simp [mo]at s9;subst s9;exact .rd (hcell c0 v' (n6.2 k c0 v' mo fc) (List.all_eq_true.1 hd _ (zM mo)))
     | fn=>simp [dq,HM]at hd
     | qh=>simp [dq,HM]at hd
 have db:=hC.pure f _ r hr (safe B S m true) m.w (xs.toList.map a.eval) (by simp [hl]) im;intro K Q hK;unfold Oper.wp;rw[eJ k9 (hC.qg f _ r hr _ _),dw];refine Calls.mono db λ e w' ⟨u,fh,gd,v9,n6⟩ => ?_
 subst fh;obtain ⟨jr,dt⟩:=grow hm gd;refine hK u ⟨m.ν,m.own,w'⟩ rfl jr dt ?_;have fy : ∀ b,b<w'.heap.size->safe m.w.heap.size (safe B S m true) ⟨λ_ _=>none,AJ.emp,w'⟩ false b->safe B S ⟨m.ν,m.own,w'⟩ true b:=λ b hb uz=>by
  rcases uz with ⟨h1,h2⟩|⟨h1,_⟩|⟨h1,_⟩
  ·exact dt.xg true b h2 h1
  ·refine .inr (.inl ⟨Nat.le_trans hm.size h1,λ s t fi hg => ?_⟩)
   obtain ⟨b',k8⟩:=Option.isSome_iff_exists.1 fi;obtain ⟨_,arr,e,hh⟩:=hm.ge ⟨b',k8⟩ hg;have:=(Array.getElem?_eq_some_iff.1 hh).1
   omega
  ·cases h1
 by_cases fq:JG r
 ·rw[lO fq]
  rcases iR v9 n6 with yj|⟨cs,vs,rfl,_⟩
  ·rcases yj with jt|⟨cs,vs,rfl,rfl,du,hh⟩
   ·have e1:vj r=Y9 r/\XT r:=by cases jt<;>exact ⟨rfl,fq⟩
    rw[show CI.valOf (.val (vj r)) m.own=vj r from rfl,e1.1];exact .ca (.one (.rd (jt.vn fy n6 e1.2)))
   ·unfold AZ at n6
    refine .ca (.agg (cs.map Y9) vs ⟨by simpa using du,λ k c' v' s9 fc => ?_⟩);rw[List.getElem?_map]at s9;cases mo:cs[k]? with
    | none=>simp [mo]at s9
    | some c0 =>
     simp [mo]at s9;subst s9;exact .rd ((hh k c0 v' mo fc).vn fy (QZ n6 k c0 mo) (fq c0 (zM mo)))
  ·exact fq.elim
 ·rw[lN fq]
  have hd:=Jv.resolve_left fq;rcases iR v9 n6 with yj|⟨cs,vs,rfl,_⟩
  ·rcases yj with jt|⟨cs,vs,rfl,rfl,du,hh⟩
   ·have e1:LN r=HO r:=by cases jt<;>rfl
    rw[show CI.valOf (.val (LN r)) m.own=LN r from rfl,e1];exact .ca (.one (.rd (jt.vo fy n6)))
   ·unfold AZ at n6
    rw[show CI.valOf (.val (LN (.agg cs))) m.own = .agg (IR cs) from rfl,lM];refine .ca (.agg (cs.map HO) vs ⟨by simpa using du,λ k c' v' s9 fc => ?_⟩);rw[List.getElem?_map]at s9;cases mo:cs[k]? with
    | none=>simp [mo]at s9
    | some c0 =>
     simp [mo]at s9;subst s9;exact .rd ((hh k c0 v' mo fc).vo fy (QZ n6 k c0 mo))
  ·exact hd.elim
end
end Go.c6

namespace Go.c6
open Go.RowKit
section
variable {B:Nat} {S:Nat->Prop} {w0:World} {m:M}
variable {P:Program} {num:Nat->Nat} {o:Oper} {a:Act} {ρ:AU->AV} {C:Cl} {c4:List Nat}
theorem AfF (hm:BR B S w0 m) (hs:CU B S m ρ a.eval) {mx:Bool} {n0:List AU} (h:BD P num o.op (.mm mx n0)=true) {v r:AV} {l:List AV} (hx:n0.map ρ=v::l) (hv:LP mx v l=some r):CY B S w0 P o a m (.val r):=by
 by_cases hi : ∃ k n,v = .int k n
 ·exact AfE hm hs h hx hv hi
 ·cases l with
  | cons u q =>
   simp only[LP]at hv;exfalso;cases v<;>first|(exact hi ⟨_,_,rfl⟩)|(simp [SG]at hv)
  | nil =>
   simp only[LP,Option.some.injEq]at hv;subst hv;obtain ⟨xs,ts,k9,he⟩:=xT h;cases n0 with
   | nil=>simp at hx
   | cons y yr =>
    simp only[List.map_cons,List.cons.injEq,List.map_eq_nil_iff]at hx;obtain ⟨rfl,rfl⟩:=hx;obtain ⟨xl⟩:=xs;cases xl with
    | nil=>simp [EX]at he
    | cons x xr =>
     simp only[EX,Bool.and_eq_true]at he;cases xr with
     | cons=>simp [EX]at he
     | nil =>
      refine FC hm (u:=a.eval x) ?_ (hs x y he.1);cases mx<;>simp [execOp,k9,resolve,invoke,builtin,Builtin.min_,Builtin.max_]
theorem wU (o:AJ) (l:List Nat) (s t:Nat) (b:ES) (h:(o.m7 l).get s t=some b):o.get s t=some b:=by
 induction l with
 | nil=>exact h
 | cons x r ih =>
  unfold AJ.get AJ.m7 at h;by_cases hs:s=x
  ·simp [hs]at h
  ·simp only[if_neg hs]at h
   exact ih h
theorem AiK {o:AJ} {l:List Nat} {s t i j n:Nat} {cs:List AV} (h:(o.m7 l).nc s t i j n=some cs):o.nc s t i j n=some cs:=by
 unfold AJ.nc at *;cases hg:(o.m7 l).get s t with
 | none=>simp [hg]at h
 | some b =>
  rw[wU o l s t b hg];simpa [hg] using h
theorem Af5 {o:AJ} {l:List Nat} {v:AV} {es:List (List AV)} (h:FD (o.m7 l) v=some es):FD o v=some es:=by
 cases v with
 | aj v=>cases v<;>exact h
 | row s t z off len =>
  simp only[FD]at h ⊢;cases hg:(o.m7 l).get s t with
  | none=>simp [hg]at h
  | some b =>
   rw[wU o l s t b hg];simpa [hg] using h
 | _=>exact h
theorem WS {α β:Type} {f g:α->Option β} (To : ∀ x y,f x=some y->g x=some y) : ∀ {l:List α} {l':List β},l.mapM f=some l'->l.mapM g=some l'
 | [],l',h=>by simpa using h
 | x::r,l',h=>by
  simp only[List.mapM_cons,Option.bind_eq_bind,Option.pure_def]at h ⊢;cases hx:f x with
  | none=>simp [hx]at h
  | some y =>
   cases hr:r.mapM f with
   | none=>simp [hx,hr]at h
   | some r' =>
    simp [hx,hr]at h;simp [To x y hx,WS To hr,h]
theorem nP (o:AJ) (l:List Nat) (b:Bool) : ∀ (d:Nat) (c c':AV),snap (o.m7 l) b d c=some c'->snap o b d c=some c'
 | 0,c,c',h=>by cases c<;>simp_all [snap]
 | d+1,c,c',h=>by
  cases c<;>first|(simp_all [snap];done)|skip
  rename_i s t z off len;simp only[snap]at h ⊢;cases he:FD (o.m7 l) (.row s t z off len) with
  | none=>simp [he]at h
  | some es =>
   simp only[he]at h;rw[Af5 he];simp only[Option.map_eq_some_iff]at h ⊢;obtain ⟨es',h1,h2⟩:=h;exact ⟨es',WS (λ x y hx=>WS (nP o l b d) hx) h1,h2⟩
theorem Mf (o:AJ) (l:List Nat) (b:Bool) (c c':AV) (h:C0 (o.m7 l) b c=some c'):C0 o b c=some c':=by
 cases c<;>first|exact nP o l b 6 _ _ h|skip
 simp only[C0,Option.map_eq_some_iff]at h ⊢;obtain ⟨cs,h1,h2⟩:=h;exact ⟨cs,WS (nP o l b 6) h1,h2⟩
theorem AkM (o:AJ) (l:List Nat) (b:Bool) (c c':AV) (h:RK (o.m7 l) b c=some c'):RK o b c=some c':=by
 rcases Classical.em (c = .nil) with rfl|hc
 ·exact h
 ·have e : ∀ o:AJ,RK o b c=C0 o b c:=λ o=>by cases c<;>first|rfl|exact (hc rfl).elim
  rw[e]at h ⊢;exact Mf o l b _ _ h
theorem AiY {o:AJ} {l:List Nat} {b:Bool} {xs vs:List AV} (h:xs.mapM (RK (o.m7 l) b)=some vs):xs.mapM (RK o b)=some vs:=WS (AkM o l b) h
theorem AiW {o:AJ} {l:List Nat} {b:Bool} {xs vs:List AV} (h:xs.mapM (C0 (o.m7 l) b)=some vs):xs.mapM (C0 o b)=some vs:=WS (Mf o l b) h
theorem Ak2 {own l8:AJ} {s t i j:Nat} {vs:List AV} (h:own.jm s t i j vs=some l8):own.put s (l8 s)=l8:=by
 unfold AJ.jm at h;cases hg:own.get s t with
 | none=>simp [hg]at h
 | some b =>
  simp only[hg]at h;cases he:b.es[i]? with
  | none=>simp [he]at h
  | some cs =>
   simp only[he]at h;split at h
   ·obtain rfl:=Option.some.inj h
    rw[AJ.j6]
   ·cases h
theorem Af3 (hC:H6 P num C) (hm:BR B S w0 m) (hs:CU B S m ρ a.eval) {zt:EH} (j7:BD P num o.op zt=true) {E:CI} (h:e9 C c4 ρ m.own zt=some E):CY B S w0 P o a m E:=by
 cases zt with
 | a6 x=>simp only[e9,Option.some.injEq]at h;subst h;exact AfG hm hs j7
 | y8 s z=>simp only[e9,Option.some.injEq]at h;subst h;exact AfM hm j7
 | pick c x y =>
  simp only[e9]at h;split at h
  ·rename_i hc;simp only[Option.some.injEq]at h;subst h;exact sK hm hs j7 hc
  ·rename_i hc;simp only[Option.some.injEq]at h;subst h;exact sK hm hs j7 hc
  ·cases h
 | bin f x y =>
  simp only[e9]at h;split at h
  ·rename_i k n k' n' hx hy
   simp only[Option.map_eq_some_iff]at h;obtain ⟨v,hv,rfl⟩:=h;exact Afg hm hs j7 hx hy hv
  ·cases h
 | beq ne x y =>
  simp only[e9]at h;split at h
  ·rename_i b b' hx hy
   simp only[Option.some.injEq]at h;subst h;exact Aff hm hs j7 hx hy
  ·cases h
 | un f x =>
  simp only[e9,Option.map_eq_some_iff]at h;obtain ⟨v,hv,rfl⟩:=h;exact AfL hm hs j7 hv
 | conv k x =>
  simp only[e9]at h;split at h
  ·rename_i k' n hx
   simp only[Option.some.injEq]at h;subst h;exact Afq hm hs j7 hx
  ·cases h
 | box s x =>
  simp only[e9]at h;split at h
  ·rename_i cs gx
   simp only[Option.some.injEq]at h;subst h;exact Afh hm hs j7 gx
  ·cases h
 | alloc s z=>simp only[e9,Option.some.injEq]at h;subst h;exact Afc hm j7
 | build z ps =>
  simp only[e9,Option.map_eq_some_iff]at h;obtain ⟨cs,gx,rfl⟩:=h;exact Afj hm hs j7 gx
 | b7 s b8 ps =>
  simp only[e9]at h;split at h
  ·rename_i es gf
   split at h
   ·rename_i hz
    simp only[Option.some.injEq]at h;subst h;exact Afi hm hs j7 gf hz
   ·cases h
  ·cases h
 | a5 x off =>
  simp only[e9]at h;split at h
  ·rename_i s t i j hx
   simp only[Option.some.injEq]at h;subst h;exact Aft hm hs j7 hx
  ·rename_i cs hx
   simp only[Option.some.injEq]at h;subst h;exact Afs hm hs j7 hx
  ·cases h
 | lq x off n agg =>
  simp only[e9]at h;split at h
  ·rename_i cs hx
   split at h
   ·rename_i ds hp
    simp only[Option.map_eq_some_iff]at h;obtain ⟨v,hv,rfl⟩:=h;exact Afu hm hs j7 hx hp hv
   ·cases h
  ·cases h
 | a8 arr b8 x i =>
  simp only[e9]at h;split at h
  ·rename_i k n hi
   split at h
   ·rename_i len s t i' j hx
    split at h
    ·rename_i hn
     simp only[Option.some.injEq]at h;subst h;exact Afv hm hs j7 hi hx hn.1 hn.2
    ·cases h
   ·rename_i len cs hx
    split at h
    ·rename_i hn
     simp only[Option.some.injEq]at h;subst h;exact Afw hm hs j7 hi hx hn.1 hn.2
    ·cases h
   ·rename_i s t z off len hx
    split at h
    ·rename_i hn
     simp only[Option.some.injEq]at h;subst h;exact Afx hm hs j7 hi hx hn.1 hn.2.1 hn.2.2
    ·cases h
   ·rename_i l es hx
    split at h
    ·rename_i h0
     split at h
     ·rename_i cs gx
      split at h
      ·rename_i hz
       simp only[Option.some.injEq]at h;subst h;exact Afy hm hs j7 hi hx h0 gx hz
      ·cases h
     ·cases h
    ·cases h
   ·cases h
  ·cases h
 | ld agg n x =>
  simp only[e9]at h;split at h
  ·rename_i s t i j hx
   split at h
   ·rename_i cs gx
    simp only[Option.map_eq_some_iff]at h;obtain ⟨v,hv,rfl⟩:=h;exact AfA hm hs j7 hx (AiK gx) hv
   ·cases h
  ·rename_i cs hx
   split at h
   ·rename_i ds hp
    simp only[Option.map_eq_some_iff]at h;obtain ⟨v,hv,rfl⟩:=h;exact Afz hm hs j7 hx hp hv
   ·cases h
  ·cases h
 | st n x v =>
  simp only[e9]at h;split at h
  ·rename_i s t i j vs hx de
   split at h
   ·rename_i hn
    simp only[Option.map_eq_some_iff]at h;obtain ⟨l8,ho,rfl⟩:=h;exact sO hm hs j7 hx de hn ho
   ·cases h
  ·cases h
 | mk s b8 bytes zero l c =>
  simp only[e9]at h;split at h
  ·rename_i kl a' kc b' hl hc
   split at h
   ·rename_i hn
    simp only[Option.some.injEq]at h;subst h;exact AfC hm hs j7 hl hc hn.1 hn.2.1 hn.2.2.1 hn.2.2.2.1 hn.2.2.2.2
   ·cases h
  ·cases h
 | cj b8 x lo hi =>
  simp only[e9]at h;have Rq : ∀ (d:Nat) (y:Option AU) (q:Nat),(match y with|none=>some d|some o=>match ρ o with | .int _ n=>if 0<=n/\n<=d then some n.toNat else none|_=>none)=some q -> ∃ n:Int,IL ρ d y=some n/\0<=n/\n<=d/\q=n.toNat:=λ d y q hq=>by
   cases y with
   | none=>simp only[Option.some.injEq]at hq;subst hq;exact ⟨d,rfl,by omega,by omega,by simp⟩
   | some y =>
    simp only at hq;cases hy:ρ y with
    | int k n =>
     simp only[hy]at hq;split at hq
     ·rename_i hn
      simp only[Option.some.injEq]at hq;subst hq;exact ⟨n,by simp [IL,hy],hn.1,hn.2,rfl⟩
     ·cases hq
    | _=>simp [hy]at hq
  have Bl : ∀ (y:Option AU) (q:Nat),(match y with|none=>some 0|some o=>match ρ o with | .int _ n=>if 0<=n then some n.toNat else none|_=>none)=some q -> ∃ n:Int,IL ρ 0 y=some n/\0<=n/\q=n.toNat:=λ y q hq=>by
   cases y with
   | none=>simp only[Option.some.injEq]at hq;subst hq;exact ⟨0,rfl,by omega,by simp⟩
   | some y =>
    simp only at hq;cases hy:ρ y with
    | int k n =>
     simp only[hy]at hq;split at hq
     ·rename_i hn
      simp only[Option.some.injEq]at hq;subst hq;exact ⟨n,by simp [IL,hy],hn,rfl⟩
     ·cases hq
    | _=>simp [hy]at hq
  have Bm : ∀ (y:Option AU) (q:Nat),(match y with|none=>some 0|some o=>match ρ o with | .int _ n=>if n=0 then some 0 else none|_=>none)=some q->IL ρ 0 y=some 0:=λ y q hq=>by
   cases y with
   | none=>rfl
   | some y =>
    simp only at hq;cases hy:ρ y with
    | int k n =>
     simp only[hy]at hq;split at hq
     ·rename_i hn
      subst hn;simp [IL,hy]
     ·cases hq
    | _=>simp [hy]at hq
  split at h
  ·rename_i l es hx
   split at h
   ·rename_i q1 q2 h1 h2
    split at h
    ·rename_i hq
     simp only[Option.some.injEq]at h;subst h;obtain ⟨n1,b1,c1,rfl⟩:=Bl _ _ h1;obtain ⟨n2,b2,c2,c3,rfl⟩:=Rq _ _ _ h2;exact AfK hm hs j7 hx b1 b2 c1 (by omega) c3 hq.2
    ·cases h
   ·cases h
  ·rename_i hx
   split at h
   ·rename_i q1 q2 h1 h2
    simp only[Option.some.injEq]at h;subst h;exact AfI hm hs j7 hx (Bm _ _ h1) (Bm _ _ h2)
   ·cases h
  ·rename_i s t z off len hx
   split at h
   ·rename_i q1 q2 h1 h2
    split at h
    ·rename_i hq
     simp only[Option.some.injEq]at h;subst h;obtain ⟨n1,b1,c1,rfl⟩:=Bl _ _ h1;obtain ⟨n2,b2,c2,c3,rfl⟩:=Rq _ _ _ h2;exact AfJ hm hs j7 hx b1 b2 c1 (by omega) c3 hq.2
    ·cases h
   ·cases h
  ·cases h
 | ext x i =>
  simp only[e9]at h;split at h
  ·rename_i vs hx
   simp only[Option.map_eq_some_iff]at h;obtain ⟨v,hv,rfl⟩:=h;exact Afr hm hs j7 hx hv
  ·cases h
 | len x =>
  simp only[e9]at h;split at h
  ·rename_i n hn
   simp only[Option.some.injEq]at h;subst h;exact AfB hm hs j7 hn
  ·cases h
 | mm mx xs =>
  simp only[e9]at h;split at h
  ·cases h
  ·rename_i v r hx
   simp only[Option.map_eq_some_iff]at h;obtain ⟨q,hq,rfl⟩:=h;exact AfF hm hs j7 hx hq
 | app s b8 bytes x y =>
  simp only[e9]at h;split at h
  ·rename_i ys vd
   split at h
   ·rename_i hz
    split at h
    ·rename_i s' t z len hx
     split at h
     ·rename_i b hb
      split at h
      ·rename_i hn
       obtain ⟨n1,rfl,n3,n4,n5⟩:=hn;simp only[Option.some.injEq]at h;subst h;exact Afe hm hs j7 vd hz hx hb n1 n3 n4 n5
      ·cases h
     ·cases h
    ·rename_i hx
     split at h
     ·rename_i hn
      simp only[Option.some.injEq]at h;subst h;exact Afd hm hs j7 vd hz hx hn.1 hn.2
     ·cases h
    ·cases h
   ·cases h
  ·cases h
 | call f xs =>
  simp only[e9]at h;split at h
  ·rename_i vs de
   simp only[Option.map_eq_some_iff]at h;obtain ⟨r,hr,rfl⟩:=h;exact Afk hC hm hs j7 (AiW de) hr
  ·cases h
 | g6 f xs =>
  simp only[e9,Option.map_eq_some_iff]at h;obtain ⟨r,hr,rfl⟩:=h;exact sI hC hm hs j7 hr
 | oy ne x =>
  simp only[e9]at h;split at h
  ·rename_i hx
   simp only[Option.some.injEq]at h;subst h;exact cA hm hs j7 (b:=true) λ v hv=>by rw[hx]at hv;exact ⟨none,0,0,V8 hv,rfl⟩
  ·rename_i b hx
   simp only[Option.some.injEq]at h;subst h;exact cA hm hs j7 (b:=b) λ v hv=>by
    rw[hx]at hv;obtain ⟨ad,c,h1,h2⟩:=rU hv;exact ⟨ad,0,c,h1,h2⟩
  ·rename_i hx
   simp only[Option.some.injEq]at h;subst h;exact cA hm hs j7 (b:=false) λ v hv=>by rw[hx]at hv;exact AeO hv
  ·rename_i hx
   simp only[Option.some.injEq]at h;subst h;exact cA hm hs j7 (b:=false) λ v hv=>by rw[hx]at hv;exact AeN hv
  ·cases h
 | bad =>
  have h:(none:Option CI)=some E:=h;cases h
 | aq s f xs =>
  simp only[e9,Option.map_eq_some_iff]at h;obtain ⟨p,hp,rfl⟩:=h;exact sI hC hm hs (Ais j7) (bI.1 hp m.own rfl)
 | eo tb x =>
  simp only[e9]at h;split at h
  ·rename_i k n hx
   split at h
   ·rename_i h0
    split at h
    ·rename_i v hv
     simp only[Option.some.injEq]at h;subst h;exact AfH hm hs j7 hx h0 hv
    ·cases h
   ·cases h
  ·cases h
 | mf p f xs =>
  simp only[e9,Option.map_eq_some_iff]at h;obtain ⟨cs,gx,rfl⟩:=h;rw[hC.num];exact AfD hm hs j7 gx
 | m5 f xs =>
  simp only[e9]at h;split at h
  ·rename_i hq
   split at h
   ·rename_i r hr
    split at h
    ·rename_i fq
     simp only[Option.some.injEq]at h;subst h;exact Afn hC hm hs j7 hq hr fq
    ·cases h
   ·cases h
  ·cases h
 | o5 s f xs =>
  simp only[e9]at h;split at h
  ·rename_i vs de
   simp only[Option.map_eq_some_iff]at h;obtain ⟨⟨z,es⟩,hr,rfl⟩:=h;exact Afo hC hm hs j7 (AiY de) hr
  ·cases h
 | mi s n x v =>
  simp only[e9]at h;split at h
  ·rename_i s' t i j vs hx de
   split at h
   ·rename_i hn
    obtain ⟨rfl,hn⟩:=hn;simp only[Option.map_eq_some_iff]at h;obtain ⟨l8,ho,rfl⟩:=h;have:=sO hm hs (AiE j7) hx de hn ho
    intro K Q hK;refine this K Q λ u m' h1 h2 h3 h4=>hK u m' ?_ h2 h3 h4
    rw[h1];exact (Ak2 ho).symm
   ·cases h
  ·cases h
 | m8 x xs =>
  simp only[e9]at h;split at h
  ·rename_i p f g cs hx
   split at h
   ·rename_i hg
    rw[hC.num]at hg;subst hg;split at h
    ·split at h
     ·rename_i vs de
      simp only[Option.map_eq_some_iff]at h;obtain ⟨r,hr,rfl⟩:=h;exact Afm hC hm hs j7 hx de hr
     ·cases h
    ·simp only[Option.map_eq_some_iff]at h
     obtain ⟨r,hr,rfl⟩:=h;exact Afp hC hm hs j7 hx hr
    ·split at h
     ·rename_i vs de
      simp only[Option.map_eq_some_iff]at h;obtain ⟨r,hr,rfl⟩:=h;exact Afl hC hm hs j7 hx de hr
     ·cases h
   ·cases h
  ·cases h
end
end Go.c6

namespace Go.c6
open Go.RowKit
def E6 (T:Nat->AV):AU->AV
 | .t n=>T n
 | .c v=>v
def KM (T:Nat->AV) (d:Option Nat) (v:AV):Nat->AV:=λ j=>if d=some j then v else T j
def MK (T:Nat->AV):Option (Nat × Bool)->Option Bool
 | none=>some true
 | some (g,want)=>match T g with
  | .bool b=>some (b == want)
  | .g8 []=>some false
  | _=>none
theorem tW (st:St):st.ev=E6 (g7 st.tm):=by funext x;cases x<;>rfl
theorem AhM (st:St) (g:Option (Nat × Bool)):GQ st g=MK (g7 st.tm) g:=rfl
theorem sY (st:St) (d:Option Nat) (v:AV):g7 (st.dst d v).tm=KM (g7 st.tm) d v:=by
 cases d with
 | none=>funext j;simp [St.dst,KM]
 | some d =>
  funext j
  simp only[St.dst,KM,Z9];by_cases h:j=d
  ·simp [h]
  ·simp [h,Ne.symm h]
theorem Zg (st:St) (d:Option Nat) (E:CI):g7 (st.app d E).tm=KM (g7 st.tm) d (E.valOf st.own):=by
 cases E<;>simp only[St.app,CI.valOf]<;>exact sY st d _
theorem sZ (st:St) (d:Option Nat) (v:AV):(st.dst d v).own=st.own:=by cases d<;>rfl
theorem Zf (st:St) (d:Option Nat) (E:CI):(st.app d E).own=E.x6 st.own:=by
 cases E with
 | val v=>simp only[St.app,CI.x6];exact sZ st d v
 | _=>rfl
section
variable {B:Nat} {S:Nat->Prop} {w0:World} {m0:M} {N:Nat}
variable {P:Program} {num:Nat->Nat} {C:Cl} {Q:Exit->Act->World->Prop}
structure GS (B:Nat) (S:Nat->Prop) (w0:World) (m0:M) (N:Nat) (T:Nat->AV) (m:M) (a:Act):Prop where
 mem:BR B S w0 m
 ext:DS B S m0 m
 tm : ∀ i,CV B S m (T i) (a.tmps.getD i undef)
 size:a.tmps.size=N
 defers:a.defers=[]
theorem GS.put {T:Nat->AV} {m m':M} {a:Act} (h:GS B S w0 m0 N T m a) (d:Option Nat) (hd : ∀ k,d=some k->k<N) {v:AV} {u:Value} (hm:BR B S w0 m') (he:DS B S m m') (hc:CV B S m' v u):GS B S w0 m0 N (KM T d v) m' (a.put d u):=by
 refine ⟨hm,h.ext.trans he,λ i => ?_,?_,?_⟩
 ·cases d with
  | none=>simpa [KM,Act.put] using he.cv (h.tm i)
  | some k =>
   have hk:k<a.tmps.size:=by rw[h.size];exact hd k rfl
   by_cases Dg:i=k
   ·subst Dg
    simp only[KM,if_true,Act.put];simpa [Array.getD,hk] using hc
   ·have l9 : ¬ (some k=some i):=λ e=>Dg (by simpa using e.symm)
    simp only[KM,if_neg l9,Act.put];have:(a.tmps.setIfInBounds k u).getD i undef=a.tmps.getD i undef:=by
     simp [Array.getElem?_setIfInBounds_ne (Ne.symm Dg)]
    rw[this];exact he.cv (h.tm i)
 ·cases d<;>simp [Act.put,h.size]
 ·cases d<;>simpa [Act.put] using h.defers
theorem GS.says {T:Nat->AV} {m:M} {a:Act} (h:GS B S w0 m0 N T m a):CU B S m (E6 T) a.eval:=Aku (λ_=>rfl) (λ_=>rfl) h.tm
theorem AlD {T:Nat->AV} {m:M} {a:Act} (h:GS B S w0 m0 N T m a) {ops:Array Oper} {o:Oper} {g':Option (Nat × Bool)} (hg:ZE ops o.guard g'=true) {g:Bool} (lz:MK T g'=some g):Region.wanted o (yielded ops a.tmps)=g:=by
 unfold Region.wanted;cases Kj:o.guard with
 | none =>
  cases g' with
  | none=>simp [MK]at lz;simp [lz]
  | some _=>simp [ZE,Kj]at hg
 | some jw =>
  obtain ⟨j,want⟩:=jw;cases g' with
  | none=>simp [ZE,Kj]at hg
  | some tw =>
   obtain ⟨t,Vw⟩:=tw;simp only[ZE,Kj,Bool.and_eq_true,beq_iff_eq]at hg;obtain ⟨rfl,hg⟩:=hg;split at hg
   ·rename_i oj Gp
    have Js:oj.dst=some t:=by simpa using hg
    have v9:=h.tm t;simp only[MK]at lz;unfold yielded;simp only[Gp,Option.bind_some,Js];split at lz
    ·rename_i b hb
     rw[hb]at v9;have hv:=UI v9;have n7:a.tmps[t]? = some (.bool b):=by
      cases ht:a.tmps[t]? with
      | none=>simp [ht,undef]at hv
      | some x=>simp [ht]at hv;rw[hv]
     simp only[n7];simp at lz;rw[<-lz];cases b<;>cases want<;>rfl
    ·rename_i hb
     rw[hb]at v9;obtain ⟨vs,hv,hl,_⟩:=iS v9;have:vs=[]:=List.eq_nil_of_length_eq_zero (by simpa using hl.symm)
     subst this;simp at lz;subst lz;cases ht:a.tmps[t]? with
     | none=>rfl
     | some x =>
      simp [ht]at hv;subst hv;rfl
    ·cases lz
   ·cases hg
theorem Ox (hC:H6 P num C) {ops:Array Oper} {i:Nat} {o:Oper} {ai:AI} (hi:ops[i]? = some o) (j7:dM P num N ops o ai=true) {T:Nat->AV} {m:M} {a:Act} (hf:GS B S w0 m0 N T m a) {g:Bool} (hg:MK T ai.guard=some g) {E:CI}
  (hE:g=true->e9 C ai.c4 (E6 T) m.own ai.op=some E) {K:Act->World->Prop} (hK : ∀ m' a',m'.own=(if g then E.x6 m.own else m.own)->GS B S w0 m0 N (KM T ai.dst (if g then E.valOf m.own else .g8 [])) m' a'->K a' m'.w):wpOp P ops Q i K a m.w:=by
 simp only[dM,Bool.and_eq_true,beq_iff_eq]at j7;obtain ⟨⟨⟨h1,h2⟩,h3⟩,h4⟩:=j7;have hd : ∀ k,o.dst=some k->k<N:=λ k hk=>by
  rw[h1]at hk;rw[hk]at h2;simpa using h2
 unfold wpOp;simp only[hi,AlD hf h3 hg];cases g with
 | true =>
  simp only[if_true];refine .inl (Af3 hC hf.mem hf.says h4 (hE rfl) K Q λ u m' k6 jr dt v9 => ?_);refine hK m' _ (by simpa using k6) ?_;rw[<-h1];exact hf.put o.dst hd jr dt v9
 | false =>
  simp only[Bool.false_eq_true,if_false];refine hK m _ (by simp) ?_;rw[<-h1];exact hf.put o.dst hd hf.mem (DS.refl m) zA
theorem Qo {o:AI} {st j8:St} (h:C1 C o st=some j8) : ∃ g E,MK (g7 st.tm) o.guard=some g/\(g=true->e9 C o.c4 (E6 (g7 st.tm)) st.own o.op=some E)/\g7 j8.tm=KM (g7 st.tm) o.dst (if g then E.valOf st.own else .g8 [])/\j8.own=(if g then E.x6 st.own else st.own):=by
 unfold C1 at h;rw[AhM]at h;cases hg:MK (g7 st.tm) o.guard with
 | none=>simp [hg]at h
 | some g =>
  cases g with
  | true =>
   simp only[hg,Option.map_eq_some_iff]at h;obtain ⟨E,hE,rfl⟩:=h;rw[tW]at hE;exact ⟨true,E,rfl,λ_=>hE,Zg st o.dst E,Zf st o.dst E⟩
  | false =>
   simp only[hg,Option.some.injEq]at h;subst h;exact ⟨false,.val .any,rfl,λ h=>(by cases h),sY st o.dst _,sZ st o.dst _⟩
theorem ZF {ops:Array Oper} : ∀ {os:List Oper} {l:List AI},SH P num N ops os l=true->os.length=l.length /\ ∀ (i:Nat) (o:Oper) (x:AI),os[i]? = some o->l[i]? = some x->dM P num N ops o x=true
 | [],[],_=>⟨rfl,λ i o x h=>by simp at h⟩
 | o::r,x::l,h=>by
  simp only[SH,Bool.and_eq_true]at h;obtain ⟨h1,h2⟩:=ZF h.2;refine ⟨by simp [h1],λ i o' x' ho hx => ?_⟩;cases i with
  | zero=>simp at ho hx;subst ho hx;exact h.1
  | succ i=>exact h2 i o' x' (by simpa using ho) (by simpa using hx)
 | [],_::_,h=>by simp [SH]at h
 | _::_,[],h=>by simp [SH]at h
theorem Oy (hC:H6 P num C) {ops:Array Oper} {l:List AI} (j7:SH P num N ops ops.toList l=true) : ∀ (n k:Nat) (st j8:St) (m:M) (a:Act),n+k=ops.size->DI C (l.drop k) st=some j8->m.own=st.own->GS B S w0 m0 N (g7 st.tm) m a ->
  (∀ m' a',m'.own=j8.own->GS B S w0 m0 N (g7 j8.tm) m' a'->Q .normal a' m'.w)->wpOps P ops Q (List.range' k n) a m.w
 | 0,k,st,j8,m,a,hk,hs,k6,hf,hQ=>by
  have hl:=(ZF j7).1;simp at hl;rw[List.drop_eq_nil_of_le (by omega)]at hs;simp only[DI,Option.some.injEq]at hs;subst hs;simpa [wpOps] using hQ m a k6 hf
 | n+1,k,st,j8,m,a,hk,hs,k6,hf,hQ=>by
  obtain ⟨hl,hg⟩:=ZF j7;simp at hl;have yu:k<l.length:=by omega
  have Tu:k<ops.size:=by omega
  rw[List.drop_eq_getElem_cons yu]at hs;simp only[DI]at hs;cases k7:C1 C l[k] st with
  | none=>simp [k7]at hs
  | some A7 =>
   simp only[k7]at hs;obtain ⟨g,E,h1,h2,h3,h4⟩:=Qo k7;rw[List.range'_succ,wpOps_cons];have hoi:ops[k]? = some ops[k]:=Array.getElem?_eq_getElem Tu;refine Ox hC hoi (hg k ops[k] l[k] (by simp [Tu]) (zE yu)) hf h1 (λ cq=>by rw[k6];exact h2 cq) λ m' a' iw kj => ?_
   refine Oy hC j7 n (k+1) A7 j8 m' a' (by omega) hs ?_ ?_ hQ
   ·rw[iw,k6,h4]
   ·rw[k6]at kj
    rw[h3];exact kj
end
end Go.c6

namespace Go.c6
open Go.RowKit
section
variable {T T':Nat->AV} {C:Cl} {c4:List Nat} {own:AJ}
theorem EM {x:AU} (h : ∀ t∈DG x,T t=T' t):E6 T x=E6 T' x:=by
 cases x with
 | t n=>exact h n (by simp [DG])
 | c v=>rfl
theorem U7 {xs:List AU} (h : ∀ t∈xs.flatMap DG,T t=T' t):xs.map (E6 T)=xs.map (E6 T') :=
 List.map_congr_left λ x hx=>EM λ t ht=>h t (List.mem_flatMap.2 ⟨x,hx,ht⟩)
theorem Nr {x:Option AU} (h : ∀ t∈mO x,T t=T' t) {y:AU} (hy:x=some y):E6 T y=E6 T' y:=by
 subst hy;exact EM h
theorem AfY {op:EH} (h : ∀ t∈JF op,T t=T' t):e9 C c4 (E6 T) own op=e9 C c4 (E6 T') own op:=by
 cases op with
 | build z ps =>
  simp only[e9];congr 2;refine List.map_congr_left λ p hp => ?_
  rw[EM (x:=p.2.2) λ t ht=>h t (by simp only[JF];exact List.mem_flatMap.2 ⟨p,hp,ht⟩)]
 | b7 s b8 ps =>
  have hm:ps.mapM (λ x=>cellsOf (E6 T x))=ps.mapM (λ x=>cellsOf (E6 T' x)):=by
   have e : ∀ l:List AU,(∀ x∈l,E6 T x=E6 T' x)->l.mapM (λ x=>cellsOf (E6 T x))=l.mapM (λ x=>cellsOf (E6 T' x)):=by
    intro l;induction l with
    | nil=>intro _;rfl
    | cons x r ih=>intro hl;simp only[List.mapM_cons];rw[hl x (by simp),ih λ y hy=>hl y (by simp [hy])]
   exact e ps λ x hx=>EM λ t ht=>h t (by simp only[JF];exact List.mem_flatMap.2 ⟨x,hx,ht⟩)
  simp only[e9,hm]
 | mm mx xs=>simp only[e9];rw[U7 (xs:=xs) h]
 | call f xs=>simp only[e9];rw[U7 (xs:=xs) h]
 | g6 f xs=>simp only[e9];rw[U7 (xs:=xs) h]
 | oy ne x=>simp only[e9];rw[EM (x:=x) h]
 | bad=>rfl
 | eo tb x=>simp only[e9];rw[EM (x:=x) h]
 | mf p f xs =>
  have e : ∀ l:List AU,(∀ x∈l,E6 T x=E6 T' x)->l.mapM (λ x=>HZ (E6 T x))=l.mapM (λ x=>HZ (E6 T' x)):=by
   intro l;induction l with
   | nil=>intro _;rfl
   | cons x r ih=>intro hl;simp only[List.mapM_cons];rw[hl x (by simp),ih λ y hy=>hl y (by simp [hy])]
  simp only[e9];rw[e xs λ x hx=>EM λ t ht=>h t (by simp only[JF];exact List.mem_flatMap.2 ⟨x,hx,ht⟩)]
 | m5 f xs=>simp only[e9];rw[U7 (xs:=xs) h]
 | o5 s f xs=>simp only[e9];rw[U7 (xs:=xs) h]
 | aq s f xs=>simp only[e9];rw[U7 (xs:=xs) h]
 | mi s n x v =>
  simp only[JF,List.mem_append]at h;simp only[e9];rw[EM (x:=x) λ t ht=>h t (.inl ht),EM (x:=v) λ t ht=>h t (.inr ht)]
 | m8 x xs =>
  simp only[JF,List.mem_append]at h;simp only[e9];rw[EM (x:=x) λ t ht=>h t (.inl ht),U7 (xs:=xs) λ t ht=>h t (.inr ht)]
 | cj b8 x lo hi =>
  simp only[JF,List.mem_append]at h;have hx:E6 T x=E6 T' x:=EM λ t ht=>h t (.inl (.inl ht))
  have ma : ∀ y,lo=some y->E6 T y=E6 T' y:=λ y hy=>Nr (λ t ht=>h t (.inl (.inr ht))) hy
  have Gg : ∀ y,hi=some y->E6 T y=E6 T' y:=λ y hy=>Nr (λ t ht=>h t (.inr ht)) hy
  simp only[e9,hx];cases lo with
  | none=>cases hi with
   | none=>rfl
   | some y=>simp only[Gg y rfl]
  | some z=>cases hi with
   | none=>simp only[ma z rfl]
   | some y=>simp only[ma z rfl,Gg y rfl]
 | y8=>rfl
 | alloc=>rfl
 | a6 x=>simp only[e9];rw[EM (x:=x) h]
 | un f x=>simp only[e9];rw[EM (x:=x) h]
 | conv k x=>simp only[e9];rw[EM (x:=x) h]
 | box s x=>simp only[e9];rw[EM (x:=x) h]
 | a5 x off=>simp only[e9];rw[EM (x:=x) h]
 | lq x off n agg=>simp only[e9];rw[EM (x:=x) h]
 | ld agg n x=>simp only[e9];rw[EM (x:=x) h]
 | ext x i=>simp only[e9];rw[EM (x:=x) h]
 | len x=>simp only[e9];rw[EM (x:=x) h]
 | pick c x y =>
  simp only[JF,List.mem_append]at h;simp only[e9];rw[EM (x:=c) λ t ht=>h t (.inl (.inl ht)),EM (x:=x) λ t ht=>h t (.inl (.inr ht)),EM (x:=y) λ t ht=>h t (.inr ht)]
 | bin f x y =>
  simp only[JF,List.mem_append]at h;simp only[e9];rw[EM (x:=x) λ t ht=>h t (.inl ht),EM (x:=y) λ t ht=>h t (.inr ht)]
 | beq ne x y =>
  simp only[JF,List.mem_append]at h;simp only[e9];rw[EM (x:=x) λ t ht=>h t (.inl ht),EM (x:=y) λ t ht=>h t (.inr ht)]
 | a8 arr b8 x i =>
  simp only[JF,List.mem_append]at h;simp only[e9];rw[EM (x:=x) λ t ht=>h t (.inl ht),EM (x:=i) λ t ht=>h t (.inr ht)]
 | st n x v =>
  simp only[JF,List.mem_append]at h;simp only[e9];rw[EM (x:=x) λ t ht=>h t (.inl ht),EM (x:=v) λ t ht=>h t (.inr ht)]
 | mk s b8 bytes z l c =>
  simp only[JF,List.mem_append]at h;simp only[e9];rw[EM (x:=l) λ t ht=>h t (.inl ht),EM (x:=c) λ t ht=>h t (.inr ht)]
 | app s b8 bytes x y =>
  simp only[JF,List.mem_append]at h;simp only[e9];rw[EM (x:=x) λ t ht=>h t (.inl ht),EM (x:=y) λ t ht=>h t (.inr ht)]
theorem xJ (o:AJ) (l:List Nat) (s:Nat):o.m7 l s=if s∈l then ⟨0,λ_=>none⟩ else o s:=by
 induction l with
 | nil=>simp [AJ.m7]
 | cons x r ih =>
  simp only[AJ.m7,List.mem_cons];by_cases h:s=x
  ·simp [h]
  ·rw[if_neg h,ih]
   simp [h]
theorem Aid {o o':AJ} {l:List Nat} (h : ∀ s,s ∉ l->o s=o' s):o.m7 l=o'.m7 l:=by
 funext s
 rw[xJ,xJ];split
 ·rfl
 ·rename_i hs;exact h s hs
end
section
variable {ops:Array Oper}
def inner (acc:Array Nat) (o:Oper):Nat:=o.after.foldl (λ s e=>if Region.binds .any e then s ||| 2^e.on ||| acc.getD e.on 0 else s) 0
theorem Aih (acc:Array Nat) (o:Oper) (j:Nat) (h:(inner acc o).testBit j=true) : ∃ e∈o.after,Region.binds .any e=true/\(e.on=j\/(acc.getD e.on 0).testBit j=true):=by
 unfold inner at h;rw[<-Array.foldl_toList]at h;have key : ∀ (l:List Edge) (s:Nat),(l.foldl (λ s e=>if Region.binds .any e then s ||| 2^e.on ||| acc.getD e.on 0 else s) s).testBit j=true->s.testBit j=true \/ ∃ e∈l,Region.binds .any e=true/\(e.on=j\/(acc.getD e.on 0).testBit j=true):=by
  intro l;induction l with
  | nil=>intro s hs;exact .inl hs
  | cons e r ih =>
   intro s hs;simp only[List.foldl_cons]at hs;rcases ih _ hs with h1|⟨e',fh,h2⟩
   ·by_cases hb:Region.binds .any e=true
    ·simp only[hb,if_true,Nat.testBit_or,Bool.or_eq_true,Nat.testBit_two_pow,decide_eq_true_eq]at h1
     rcases h1 with (h1|h1)|h1
     ·exact .inl h1
     ·exact .inr ⟨e,by simp,hb,.inl h1⟩
     ·exact .inr ⟨e,by simp,hb,.inr h1⟩
    ·simp only[hb,Bool.false_eq_true,if_false]at h1
     exact .inl h1
   ·exact .inr ⟨e',by simp [fh],h2⟩
 rcases key _ _ h with h|⟨e,he,h⟩
 ·simp at h
 ·exact ⟨e,by simpa using he,h⟩
theorem Zj (i j:Nat) (h:((Region.before ops).getD i 0).testBit j=true) : ∃ o,ops[i]? = some o /\ ∃ e∈o.after,Region.binds .any e=true/\(e.on=j\/(e.on<i/\((Region.before ops).getD e.on 0).testBit j=true)):=by
 have key : ∀ (rest:List Oper) (done:List Oper) (acc:Array Nat),acc.size=done.length ->
   (∀ i j,(acc.getD i 0).testBit j=true -> ∃ o,done[i]? = some o /\ ∃ e∈o.after,Region.binds .any e=true/\(e.on=j\/(e.on<i/\(acc.getD e.on 0).testBit j=true))) ->
   ∀ i j,((rest.foldl (λ acc o=>acc.push (inner acc o)) acc).getD i 0).testBit j=true -> ∃ o,(done++rest)[i]? = some o /\ ∃ e∈o.after,Region.binds .any e=true/\(e.on=j\/(e.on<i/\((rest.foldl (λ acc o=>acc.push (inner acc o)) acc).getD e.on 0).testBit j=true)):=by
  intro rest;induction rest with
  | nil=>intro done acc hs hinv i j hj;simpa using hinv i j hj
  | cons o r ih =>
   intro done acc hs hinv i j hj;simp only[List.foldl_cons]at hj ⊢;have:=ih (done++[o]) (acc.push (inner acc o)) (by simp [hs]) (λ i j wk => ?_) i j hj
   ·simpa using this
   ·have n7 : ∀ k,k<acc.size->(acc.push (inner acc o)).getD k 0=acc.getD k 0:=λ k hk=>by
     simp [Array.getD,hk,Nat.lt_succ_of_lt hk,Array.getElem_push_lt hk]
    by_cases hi:i<acc.size
    ·rw[n7 i hi]at wk
     obtain ⟨o',uv,e,he,hb,cr⟩:=hinv i j wk;refine ⟨o',by rw[List.getElem?_append_left (by omega)];exact uv,e,he,hb,cr.imp id λ⟨h1,h2⟩=>⟨h1,by rw[n7 e.on (by omega)];exact h2⟩⟩
    ·have Jz:i=acc.size:=by
      rcases Nat.lt_or_ge i (acc.push (inner acc o)).size with h1|h1
      ·simp at h1;omega
      ·have:(acc.push (inner acc o)).getD i 0=0:=by simp [Array.getD];intro h2;simp at h1;omega
       rw[this]at wk;simp at wk
     subst Jz;have gj:(acc.push (inner acc o)).getD acc.size 0=inner acc o:=by simp [Array.getD]
     rw[gj]at wk;obtain ⟨e,he,hb,cr⟩:=Aih acc o j wk;refine ⟨o,by rw[hs];simp,e,he,hb,cr.imp id λ h2 => ?_⟩;have j9:e.on<acc.size:=by
      rcases Nat.lt_or_ge e.on acc.size with h3|h3
      ·exact h3
      ·have:acc.getD e.on 0=0:=by simp [Array.getD];omega
       rw[this]at h2;simp at h2
     exact ⟨j9,by rw[n7 e.on j9];exact h2⟩
 have hb:Region.before ops=ops.toList.foldl (λ acc o=>acc.push (inner acc o)) #[]:=by
  unfold Region.before;rw[<-Array.foldl_toList];rfl
 rw[hb]at h ⊢;have:=key ops.toList [] #[] rfl (λ i j wk=>by simp at wk) i j h
 simpa using this
def VV (ops:Array Oper) (X:Nat->Bool):Prop := ∀ j o,X j=true->ops[j]? = some o -> ∀ e∈o.after,Region.binds .any e=true->X e.on=true
theorem Rm {X:Nat->Bool} (hX:VV ops X) : ∀ (i:Nat),(∀ o,ops[i]? = some o -> ∀ e∈o.after,Region.binds .any e=true->X e.on=true) -> ∀ j,((Region.before ops).getD i 0).testBit j=true->X j=true:=by
 intro i;induction i using Nat.strongRecOn with
 | ind i ih =>
  intro hi j hj;obtain ⟨o,ho,e,he,hb,cr⟩:=Zj i j hj;have hx:=hi o ho e he hb;rcases cr with h|⟨j9,h⟩
  ·rw[<-h];exact hx
  ·exact ih e.on j9 (λ o' uv e' fh k8=>hX e.on o' hx uv e' fh k8) j h
theorem AjB {X:Nat->Bool} (hX:VV ops X) {i j:Nat} (hi : ∀ o,ops[i]? = some o -> ∀ e∈o.after,Region.binds .any e=true->X e.on=true) (j9:j<i) (h:JS (Region.before ops) i j=true):X j=true:=by
 unfold JS at h;rw[Nat.max_eq_left (by omega),Nat.min_eq_right (by omega)]at h;exact Rm hX i hi j h
theorem Nu {X:Nat->Bool} (hX:VV ops X) {i j:Nat} (hj:X j=true) (j9:i<j) (h:JS (Region.before ops) i j=true):X i=true:=by
 unfold JS at h;rw[Nat.max_eq_right (by omega),Nat.min_eq_left (by omega)]at h;exact Rm hX j (λ o ho e he hb=>hX j o hj ho e he hb) i h
end
section
variable {C:Cl}
abbrev D:=(Nat->AV) × AJ
structure EJ where
 d:Option Nat
 g:Bool
 E:CI
 v:AV
def EJ.own (r:EJ) (o:AJ):AJ:=if r.g then r.E.x6 o else o
def EJ.act (r:EJ) (x:D):D:=(KM x.1 r.d r.v,r.own x.2)
structure VX (C:Cl) (x:AI) (r:EJ) (s s':St):Prop where
 d:r.d=x.dst
 g:MK (g7 s.tm) x.guard=some r.g
 E:r.g=true->e9 C x.c4 (E6 (g7 s.tm)) s.own x.op=some r.E
 v:r.v=(if r.g then r.E.valOf s.own else .g8 [])
 act:(g7 s'.tm,s'.own)=r.act (g7 s.tm,s.own)
theorem trace : ∀ {l:List AI} {st j8:St},DI C l st=some j8 -> ∃ (σ:Nat->St) (rs:List EJ),σ 0=st/\σ l.length=j8/\rs.length=l.length /\ ∀ (k:Nat) (x:AI) (r:EJ),l[k]? = some x->rs[k]? = some r->VX C x r (σ k) (σ (k+1))
 | [],st,j8,h=>by
  simp only[DI,Option.some.injEq]at h;subst h;exact ⟨λ_=>st,[],rfl,rfl,rfl,λ k x r hx=>by simp at hx⟩
 | o::q,st,j8,h=>by
  simp only[DI]at h;cases hs:C1 C o st with
  | none=>simp [hs]at h
  | some A7 =>
   simp only[hs]at h;obtain ⟨σ,rs,h0,h1,hl,h2⟩:=trace h;obtain ⟨g,E,e1,e2,e3,e4⟩:=Qo hs;refine ⟨λ k=>match k with|0=>st|k+1=>σ k,⟨o.dst,g,E,if g then E.valOf st.own else .g8 []⟩::rs,rfl,h1,by simp [hl],λ k x r hx hr => ?_⟩;cases k with
   | zero =>
    simp at hx hr;subst hx hr;refine ⟨rfl,e1,e2,rfl,?_⟩;show (g7 (σ 0).tm,(σ 0).own)=_;rw[h0,e3,e4];rfl
   | succ k=>exact h2 k x r (by simpa using hx) (by simpa using hr)
def EB (X:Nat->Bool):List EJ->Nat->D->D
 | [],_,x=>x
 | r::rs,k,x=>EB X rs (k+1) (if X k then r.act x else x)
theorem kL (X:Nat->Bool) : ∀ (l l':List EJ) (k:Nat) (x:D),EB X (l++l') k x=EB X l' (k+l.length) (EB X l k x)
 | [],l',k,x=>by simp [EB]
 | r::rs,l',k,x=>by
  simp only[List.cons_append,EB,List.length_cons];rw[kL X rs l' (k+1)];congr 1;omega
theorem wG {X Y:Nat->Bool} {t:Nat} : ∀ (l:List EJ) (k:Nat) (x y:D),x.1 t=y.1 t->(∀ i r,l[i]? = some r->r.d=some t->X (k+i)=Y (k+i))->(EB X l k x).1 t=(EB Y l k y).1 t
 | [],k,x,y,h,_=>h
 | r::rs,k,x,y,h,qk=>by
  simp only[EB];refine wG rs (k+1) _ _ ?_ λ i r' hr hd=>by
   have:=qk (i+1) r' (by simpa using hr) hd
   rw[show k+1+i=k+(i+1) by omega];exact this
  by_cases hd:r.d=some t
  ·have hx:X k=Y k:=by simpa using qk 0 r rfl hd
   rw[hx];cases Y k
   ·simpa using h
   ·simp [EJ.act,KM,hd]
  ·have e1 : ∀ z:D,(r.act z).1 t=z.1 t:=λ z=>by simp [EJ.act,KM,hd]
   cases X k<;>cases Y k<;>simp [e1,h]
theorem AjC (E:CI) (s:Nat) (o o':AJ) (h:o s=o' s):E.x6 o s=E.x6 o' s:=by
 cases E with
 | val v=>exact h
 | new s' b v =>
  simp only[CI.x6,AJ.put];by_cases hs:s=s'
  ·subst hs;simp [h]
  ·simp [hs,h]
 | vm s' b v =>
  simp only[CI.x6,AJ.put];by_cases hs:s=s'
  ·subst hs;simp [h]
  ·simp [hs,h]
 | bn v o2=>rfl
 | tp s' x v =>
  simp only[CI.x6,AJ.put];by_cases hs:s=s'
  ·simp [hs]
  ·simp [hs,h]
 | o7 s' x =>
  simp only[CI.x6,AJ.put];by_cases hs:s=s'
  ·simp [hs]
  ·simp [hs,h]
theorem wF {X Y:Nat->Bool} {s:Nat} : ∀ (l:List EJ) (k:Nat) (x y:D),x.2 s=y.2 s->(∀ i r,l[i]? = some r->X (k+i)=Y (k+i) \/ ∀ o,r.own o s=o s)->(EB X l k x).2 s=(EB Y l k y).2 s
 | [],k,x,y,h,_=>h
 | r::rs,k,x,y,h,qk=>by
  simp only[EB];refine wF rs (k+1) _ _ ?_ λ i r' hr=>by
   have:=qk (i+1) r' (by simpa using hr)
   rw[show k+1+i=k+(i+1) by omega];exact this
  rcases qk 0 r rfl with hx|hx
  ·simp only[Nat.add_zero]at hx
   rw[hx];cases Y k
   ·simpa using h
   ·simp only[if_true,EJ.act,EJ.own]
    cases r.g
    ·simpa using h
    ·simpa using AjC r.E s _ _ h
  ·have e1 : ∀ z:D,(r.act z).2 s=z.2 s:=λ z=>hx z.2
   cases X k<;>cases Y k<;>simp [e1,h]
theorem kM {X:Nat->Bool} (q:EJ) : ∀ (l:List EJ) (k:Nat) (x:D),(∀ i r,l[i]? = some r->X (k+i)=true -> ∀ z,r.act (q.act z)=q.act (r.act z))->EB X l k (q.act x)=q.act (EB X l k x)
 | [],k,x,_=>rfl
 | r::rs,k,x,h=>by
  simp only[EB];have bq : ∀ i r',rs[i]? = some r'->X (k+1+i)=true -> ∀ z,r'.act (q.act z)=q.act (r'.act z):=λ i r' hr hX=>h (i+1) r' (by simpa using hr) (by rw[show k+(i+1)=k+1+i by omega];exact hX)
  cases hk:X k
  ·simp only[Bool.false_eq_true,if_false]
   exact kM q rs (k+1) x bq
  ·simp only[if_true]
   rw[h 0 r rfl (by simpa using hk)];exact kM q rs (k+1) _ bq
theorem cS {X Y:Nat->Bool} : ∀ (l:List EJ) (k:Nat) (x:D),(∀ i,i<l.length->X (k+i)=Y (k+i))->EB X l k x=EB Y l k x
 | [],_,_,_=>rfl
 | r::rs,k,x,h=>by
  simp only[EB];rw[show X k=Y k by simpa using h 0 (by simp)];exact cS rs (k+1) _ λ i hi=>by
   have:=h (i+1) (by simpa using hi)
   rw[show k+1+i=k+(i+1) by omega];exact this
theorem wE {X X':Nat->Bool} {l:List EJ} {i:Nat} {q:EJ} (hq:l[i]? = some q) (jo:X i=false) (td : ∀ j,X' j=(decide (j=i)||X j)) (x:D) (Cu : ∀ j r,l[j]? = some r->i<j->X j=true -> ∀ z,r.act (q.act z)=q.act (r.act z)) :
  EB X' l 0 x=q.act (EB X l 0 x):=by
 have ft:i<l.length:=(zS hq).1;have hli:l=l.take i++(q::l.drop (i+1)):=by
  have:l.drop i=q::l.drop (i+1):=by
   rw[List.drop_eq_getElem_cons ft];congr 1;have:=(zS hq).2
   exact this
  rw[<-this,List.take_append_drop]
 have fk:(l.take i).length=i:=by simp;omega
 rw[hli,kL,kL,fk,Nat.zero_add];simp only[EB,jo,Bool.false_eq_true,if_false];rw[show X' i=true by rw[td];simp];simp only[if_true];rw[cS (X:=X') (Y:=X) (l.take i) 0 x (λ j hj=>by rw[td];simp;omega)];rw[cS (X:=X') (Y:=X) (l.drop (i+1)) (i+1) _ (λ j hj=>by rw[td];simp;omega)];refine kM q _ _ _ λ j r hr Iu => ?_
 rw[List.getElem?_drop]at hr;exact Cu (i+1+j) r hr (by omega) Iu
end
end Go.c6
