/-
  The operations that make and read memory.
-/
import Derived.Test.YtplhdlbnneoobaaGreatB1
import Derived.Laws.Slices
set_option linter.unusedSimpArgs false
set_option linter.unusedVariables false
set_option linter.unnecessarySimpa false
namespace Go.c4
open Go.RowKit
section
variable {B:Nat} {S:Nat->Prop} {w0:World} {m:M}
variable {P:Program} {num:Nat->Nat} {o:Oper} {a:Act} {ρ:AM->AV}
theorem P8 {cs:List AV} {vs:List Value} (h:CL B S m cs vs) {j:Nat} {c:AV} (hj:cs[j]? = some c) : ∃ u,vs[j]? = some u/\CC B S m c u:=by
 have l6:j<cs.length:=(zS hj).1;have nz:j<vs.length:=by rw[<-h.1];exact l6
 exact ⟨vs[j],zE nz,h.2 j c _ hj (zE nz)⟩
theorem Mk {s:Nat} {b:DE} {w':World} {g:Nat}:CV B S ⟨g8 m s (some g),m.own.put s ((m.own s).new b),w'⟩ (.ptr s (m.own.g7 s) 0 0) (.pointer (some ⟨g,0,none⟩)):=by
 refine .ca (.one (.ptr s (m.own.g7 s) 0 0 ⟨g,0,none⟩ ?_ λ b' j9=>⟨g,?_,by simp⟩))
 ·show _<AG.g7 _ s
  rw[I9];simp
 ·simp [g8]
theorem dW (hm:BF B S w0 m) (s:Nat) (cs:List AV) (vs:Array Value) (e:TypeId) (hc:CL B S m cs vs.toList) (h:(execOp a.eval o).run P m.w = .ok (.value (.pointer (some ⟨m.w.heap.size,0,none⟩))) (m.w.alloc (.cells vs e))) :
  B9 B S w0 P o a m (.new s ⟨cs.length,[cs]⟩ (λ t => .ptr s t 0 0)):=by
 intro K Q hK;obtain ⟨h1,h2⟩:=RE hm s ⟨cs.length,[cs]⟩ vs e (by simp) (λ i bl hi j c hj=>by
  cases i with
  | zero =>
   obtain rfl:cs=bl:=by simpa using hi
   obtain ⟨u,hu,s8⟩:=P8 hc hj;exact ⟨u,by simpa using hu,s8⟩
  | succ i=>simp at hi)
 exact IL h (hK _ ⟨g8 m s (some m.w.heap.size),m.own.put s ((m.own s).new ⟨cs.length,[cs]⟩),m.w.alloc (.cells vs e)⟩ rfl h1 h2 Mk)
theorem tY (hm:BF B S w0 m) (hs:B6 B S m ρ a.eval) {s:Nat} {x':AM} (h:A2 P num o.op (.box s x')=true) {cs:List AV} (hc:cellsOf (ρ x')=some cs) :
  B9 B S w0 P o a m (.new s ⟨cs.length,[cs]⟩ (λ t => .ptr s t 0 0)):=by
 obtain ⟨t,x,j8,h1⟩:=Ke h;exact dW hm s cs (a.eval x).cells t (T6 (hs x x' h1) hc) (by simp [execOp,j8,Instr.box,newVar,newRow])
theorem tS (hm:BF B S w0 m) {s:Nat} {z:List AV} (h:A2 P num o.op (.alloc s z)=true):B9 B S w0 P o a m (.new s ⟨z.length,[z]⟩ (λ t => .ptr s t 0 0)):=by
 obtain ⟨t,j8,h1⟩:=Jy h;obtain ⟨i,v,hi,hz,he⟩:=aN h1;exact dW hm s z v.cells t (QD he) (by simp [execOp,j8,Instr.alloc,zeroValue,typeInfo,hi,hz,newVar,newRow])
theorem YC (off:Nat) : ∀ (vs:List Value) (k:Nat) (cells:Array Value),off+k+vs.length<=cells.size ->
  ((vs.zipIdx k).foldl (λ cs (x:Value × Nat)=>cs.setIfInBounds (off+x.2) x.1) cells).toList=cells.toList.take (off+k)++vs++cells.toList.drop (off+k+vs.length)
 | [],k,cells,_=>by simp
 | v::r,k,cells,h=>by
  simp only[List.length_cons]at h;rw[List.zipIdx_cons,List.foldl_cons,YC off r (k+1) _ (by simp;omega)];simp only[Array.toList_setIfInBounds,List.length_cons];apply List.ext_getElem?;intro q;have e1:(cells.toList.set (off+k) v).drop (off+(k+1)+r.length)=cells.toList.drop (off+k+(r.length+1)):=by
   rw[show off+(k+1)+r.length=off+k+(r.length+1) by omega];exact List.drop_set_of_lt (by omega)
  have e2:(cells.toList.set (off+k) v).take (off+(k+1))=cells.toList.take (off+k)++[v]:=by
   rw[show off+(k+1)=off+k+1 by omega,List.take_succ_eq_append_getElem (by simp;omega)];simp [List.take_set_of_le]
  rw[e1,e2];simp
theorem X4 (place:Nat->Option (Nat × Nat)) (hs:B6 B S m ρ a.eval) : ∀ (ps:List (Nat × Operand)) (bk:List (Nat × Nat × AM)) (cs bl:List AV) (vs:Array Value),PF place ps bk=true->CL B S m cs vs.toList ->
  fill cs (bk.map λ p=>(p.1,p.2.1,ρ p.2.2))=some bl -> ∃ w6,Instr.fill place vs (ps.map λ p=>(p.1,a.eval p.2))=some w6/\CL B S m bl w6.toList
 | [],[],cs,bl,vs,_,hc,hf=>by
  simp [fill]at hf;subst hf;exact ⟨vs,rfl,hc⟩
 | (i,x)::r,(off,n,y)::l,cs,bl,vs,hp,hc,hf=>by
  simp only[PF,Bool.and_eq_true,beq_iff_eq]at hp;obtain ⟨⟨Dx,wi⟩,Rm⟩:=hp;simp only[List.map_cons,fill]at hf;cases hcell:cellsOf (ρ y) with
  | none=>simp [hcell]at hf
  | some us =>
   simp only[hcell]at hf;split at hf
   ·rename_i hn
    obtain ⟨Rg,Dr⟩:=hn;have y8:=T6 (hs x y wi) hcell;have o8:(a.eval x).cells.size=n:=by rw[<-Rg,y8.1];simp
    have uw:off+(a.eval x).cells.size<=vs.size:=by rw[o8];have:=hc.1;simp at this;omega
    have nt:=YC off (a.eval x).cells.toList 0 vs (by simpa using uw);have cu:Instr.fill place vs (((i,x)::r).map λ p=>(p.1,a.eval p.2))=Instr.fill place ((a.eval x).cells.zipIdx.foldl (λ cs (c,j)=>cs.setIfInBounds (off+j) c) vs) (r.map λ p=>(p.1,a.eval p.2)):=by
     simp only[List.map_cons,Instr.fill,Dx];rw[if_neg (by simp;omega)]
    rw[cu];refine X4 place hs r l (splice cs off us) bl _ Rm ?_ hf;have hz:((a.eval x).cells.zipIdx.foldl (λ cs (c,j)=>cs.setIfInBounds (off+j) c) vs).toList=vs.toList.take off++(a.eval x).cells.toList++vs.toList.drop (off+(a.eval x).cells.toList.length):=by
     rw[<-Array.foldl_toList];simpa using nt
    rw[hz];unfold splice;refine ⟨?_,λ j c v hj hv => ?_⟩
    ·have:=hc.1;have:=y8.1;simp at *;omega
    ·have fk:=hc.1
     have eu:=y8.1;simp only[Array.length_toList]at fk eu;rw[List.getElem?_append]at hj hv;simp only[List.length_append,List.length_take,Array.length_toList]at hj hv;rw[List.getElem?_append]at hj hv;simp only[List.length_take,Array.length_toList]at hj hv;have dw:min off cs.length=off:=by omega
     have di:min off vs.size=off:=by omega
     rw[dw]at hj;rw[di]at hv;rw[<-eu]at hv;split at hj
     ·rename_i h1
      rw[if_pos h1]at hv;split at hj
      ·rename_i h2
       rw[if_pos h2]at hv;rw[List.getElem?_take]at hj hv;rw[if_pos h2]at hj hv;exact hc.2 j c v hj hv
      ·rename_i h2
       rw[if_neg h2]at hv;exact y8.2 _ c v hj hv
     ·rename_i h1
      rw[if_neg h1]at hv;rw[List.getElem?_drop]at hj hv;exact hc.2 _ c v hj hv
   ·cases hf
 | [],_::_,_,_,_,hp,_,_=>by simp [PF]at hp
 | _::_,[],_,_,_,hp,_,_=>by simp [PF]at hp
theorem uA (hm:BF B S w0 m) (hs:B6 B S m ρ a.eval) {z:List AV} {bk:List (Nat × Nat × AM)} (h:A2 P num o.op (.build z bk)=true) {cs:List AV} (hf:fill z (bk.map λ p=>(p.1,p.2.1,ρ p.2.2))=some cs) :
  B9 B S w0 P o a m (.val (.agg cs)):=by
 obtain ⟨t,ps,j8,h1,h2⟩:=Kg h;obtain ⟨i,v,hi,hz,he⟩:=aN h1;have key : ∃ w6,P.built t (ps.map λ p=>(p.1,a.eval p.2)).toList=some w6/\CL B S m cs w6.toList:=by
  unfold WO at h2;unfold Program.built;split at h2
  ·rename_i fs hu
   split at h2
   ·rename_i places hp
    obtain ⟨w6,h3,h4⟩:=X4 _ hs ps.toList bk z cs v.cells h2 (QD he) hf;refine ⟨w6,?_,h4⟩;simp only[hi,hu,hz,hp,Array.toList_map];exact h3
   ·cases h2
  ·rename_i n e hu
   split at h2
   ·rename_i ie Dk
    obtain ⟨w6,h3,h4⟩:=X4 _ hs ps.toList bk z cs v.cells h2 (QD he) hf;refine ⟨w6,?_,h4⟩;simp only[hi,hu,hz,Dk,Array.toList_map];exact h3
   ·cases h2
  ·cases h2
 obtain ⟨w6,h3,h4⟩:=key;refine DL hm (u := .agg w6) ?_ (.ca (by simpa using CA.agg cs w6.toList h4));simp only[execOp,j8,Sem.run_bind];rw[run_build m.w t _ w6 h3];rfl
theorem gV (size:Nat) (hs:B6 B S m ρ a.eval) : ∀ (ps:List (Nat × Operand)) (bk:List AM) (k:Nat) (es:List (List AV)) (vs:Array Value),O0 k ps bk=true->bk.mapM (λ x=>cellsOf (ρ x))=some es->(∀ e∈es,e.length=size)->vs.size=(k+bk.length)*size ->
  ∃ w6,Instr.fill (λ i=>some (i*size,size)) vs (ps.map λ p=>(p.1,a.eval p.2))=some w6/\w6.size=vs.size/\(∀ q,q<k*size->w6[q]? = vs[q]?) /\ ∀ i cs,es[i]? = some cs -> ∀ j c,cs[j]? = some c -> ∃ u,w6[(k+i)*size+j]? = some u/\CC B S m c u
 | [],[],k,es,vs,_,dv,_,_=>by
  simp at dv;subst dv;exact ⟨vs,rfl,rfl,λ_ _=>rfl,λ i cs hi=>by simp at hi⟩
 | (i,x)::r,y::l,k,es,vs,he,dv,hz,hv=>by
  simp only[O0,Bool.and_eq_true,beq_iff_eq]at he;obtain ⟨⟨rfl,h1⟩,h2⟩:=he;simp only[List.mapM_cons,Option.bind_eq_bind,Option.pure_def]at dv;cases hcell:cellsOf (ρ y) with
  | none=>simp [hcell]at dv
  | some us =>
   cases aq:l.mapM (λ x=>cellsOf (ρ x)) with
   | none=>simp [hcell,aq]at dv
   | some es' =>
    simp [hcell,aq]at dv;subst dv;have y8:=T6 (hs x y h1) hcell;have Hi:us.length=size:=hz us (by simp);have o8:(a.eval x).cells.size=size:=by rw[<-Hi,y8.1];simp
    simp only[List.length_cons]at hv;have hle:i*size+size<=vs.size:=by rw[hv,show i+(l.length+1)=i+1+l.length by omega,Nat.add_mul,Nat.add_mul];omega
    have nt:=YC (i*size) (a.eval x).cells.toList 0 vs (by simp [o8];omega);generalize Ad:(a.eval x).cells.zipIdx.foldl (λ cs (c,j)=>cs.setIfInBounds (i*size+j) c) vs=wz;have ff:wz.toList=vs.toList.take (i*size)++(a.eval x).cells.toList++vs.toList.drop (i*size+size):=by
     rw[<-Ad,<-Array.foldl_toList];simpa [o8] using nt
    have Bi:wz.size=vs.size:=by
     have:=congrArg List.length ff
     simp [o8]at this;omega
    obtain ⟨w6,h3,h4,h5,h6⟩:=gV size hs r l (i+1) es' wz h2 aq (λ e he=>hz e (by simp [he])) (by rw[Bi,hv];congr 1;omega);refine ⟨w6,?_,h4.trans Bi,λ q hq => ?_,λ i' cs m4 j c hj => ?_⟩
    ·simp only[List.map_cons,Instr.fill]
     rw[if_neg (by simp [o8];omega),Ad];exact h3
    ·rw[h5 q (by rw[Nat.add_mul];omega)]
     have:wz.toList[q]? = vs.toList[q]? := by
      rw[ff,List.append_assoc,List.getElem?_append_left (by simp;omega),List.getElem?_take,if_pos hq]
     simpa using this
    ·cases i' with
     | zero =>
      obtain rfl:us=cs:=by simpa using m4
      obtain ⟨u,hu,s8⟩:=P8 y8 hj;have bm:j<size:=by rw[<-Hi];exact (zS hj).1
      refine ⟨u,?_,s8⟩;rw[Nat.add_zero,h5 _ (by rw[Nat.add_mul];omega)];have:wz.toList[i*size+j]? = some u:=by
       rw[ff,List.append_assoc,List.getElem?_append_right (by simp;omega)];simp only[List.length_take,Array.length_toList,show min (i*size) vs.size=i*size by omega,show i*size+j-i*size=j by omega];rw[List.getElem?_append_left (by simp [o8];omega)];exact hu
      simpa using this
     | succ i' =>
      obtain ⟨u,hu,s8⟩:=h6 i' cs (by simpa using m4) j c hj;exact ⟨u,by rw[show i+(i'+1)=i+1+i' by omega];exact hu,s8⟩
 | [],_::_,_,_,_,he,_,_,_=>by simp [O0]at he
 | _::_,[],_,_,_,he,_,_,_=>by simp [O0]at he
theorem U1 {s z n cap:Nat} {es:List (List AV)} {w':World} {g:Nat} {arr:Array Value} {e:TypeId} (hz:0<z) (hn:n<=cap) (hg:w'.heap[g]? = some (.cells arr e (0,0))) (hc:cap*z<=arr.size) :
  CV B S ⟨g8 m s (some g),m.own.put s ((m.own s).new ⟨z,es⟩),w'⟩ (.row s (m.own.g7 s) z 0 n) (.slice (some ⟨g,0,none⟩) n cap):=by
 refine .ca (.one (.row s (m.own.g7 s) z 0 n _ cap ?_ hz hn (λ_=>rfl) λ b' j9=>⟨?_,.inr ⟨g,arr,e,?_,by simp,hg,by simpa using hc⟩⟩))
 ·show _<AG.g7 _ s
  rw[I9];simp
 ·change AG.get _ s _=some b' at j9
  rw[FE,if_pos ⟨rfl,rfl⟩]at j9;obtain rfl:(⟨z,es⟩:DE)=b':=by simpa using j9
  rfl
 ·simp [g8]
theorem dZ (hm:BF B S w0 m) (s z n cap:Nat) (es:List (List AV)) (vs:Array Value) (e:TypeId) (aw:0<z) (hn:n<=cap) (o8:cap*z<=vs.size) (hz : ∀ x∈es,x.length=z)
  (hc : ∀ i cs,es[i]? = some cs -> ∀ j c,cs[j]? = some c -> ∃ u,vs[i*z+j]? = some u/\CC B S m c u)
  (h:(execOp a.eval o).run P m.w = .ok (.value (.slice (some ⟨m.w.heap.size,0,none⟩) n cap)) (m.w.alloc (.cells vs e))) :
  B9 B S w0 P o a m (.new s ⟨z,es⟩ (λ t => .row s t z 0 n)):=by
 intro K Q hK;obtain ⟨h1,h2⟩:=RE hm s ⟨z,es⟩ vs e hz hc;exact IL h (hK _ ⟨g8 m s (some m.w.heap.size),m.own.put s ((m.own s).new ⟨z,es⟩),m.w.alloc (.cells vs e)⟩ rfl h1 h2 (U1 aw hn (heap_alloc_new _ _) o8))
theorem tZ (hm:BF B S w0 m) (hs:B6 B S m ρ a.eval) {s a5:Nat} {bk:List AM} (h:A2 P num o.op (.e8 s a5 bk)=true) {es:List (List AV)} (dv:bk.mapM (λ x=>cellsOf (ρ x))=some es) (hz : ∀ e∈es,e.length=a5) :
  B9 B S w0 P o a m (.new s ⟨a5,es⟩ (λ t => .row s t a5 0 es.length)):=by
 obtain ⟨t,n,ps,e,i,j8,hu,hi,o8,h0,hn,Ek,w5,hzero⟩:=Kf h;have hlen:es.length=n:=by
  rw[hn];clear h w5 hzero hn;induction bk generalizing es with
  | nil=>simp at dv;subst dv;rfl
  | cons y l ih =>
   simp only[List.mapM_cons,Option.bind_eq_bind,Option.pure_def]at dv;cases hcell:cellsOf (ρ y) with
   | none=>simp [hcell]at dv
   | some us =>
    cases aq:l.mapM (λ x=>cellsOf (ρ x)) with
    | none=>simp [hcell,aq]at dv
    | some es' =>
     simp [hcell,aq]at dv;subst dv;simp [ih aq (λ e he=>hz e (by simp [he]))]
 obtain ⟨zc,kp⟩ : ∃ zc:Array Value,(n*a5=0/\zc = #[])\/(¬ n*a5=0 /\ ∃ z,i.zero=some z/\zc=z.cells):=by
  by_cases k8:n*a5=0
  ·exact ⟨#[],.inl ⟨k8,rfl⟩⟩
  ·rcases hzero with qe|⟨z,ff,ko⟩
   ·simp [qe]at k8
   ·exact ⟨z.cells,.inr ⟨k8,z,ff,rfl⟩⟩
 have Ai:((Array.range (n*a5)).map (zc[· % zc.size]!)).size=n*a5:=by simp
 obtain ⟨w6,h3,h4,_,h6⟩:=gV a5 hs ps.toList bk 0 es _ w5 dv hz (by rw[Ai,hn];simp);have m6:(execOp a.eval o).run P m.w = .ok (.value (.slice (some ⟨m.w.heap.size,0,none⟩) n n)) (m.w.alloc (.cells w6 e)):=by
  simp only[execOp,j8,Instr.buildSlice,Sem.run_bind,run_underlying hu,Result.andThen_ok,sizeOf,typeInfo,run_program,hi,Sem.run_pure,o8];simp only[show ¬ (n*a5>2^24) from by omega,if_false,Sem.run_bind,Sem.run_pure,Result.andThen_ok];rcases kp with ⟨qe,rfl⟩|⟨qe,z,ff,rfl⟩
  ·simp only[qe,if_true,Sem.run_bind,Sem.run_pure,Result.andThen_ok,Array.toList_map]
   rw[qe]at h3;rw[h3];rfl
  ·simp only[qe,if_false,Sem.run_bind,Sem.run_pure,Result.andThen_ok,Array.toList_map,zeroValue,typeInfo,run_program,hi,ff]
   rw[h3];rfl
 rw[hlen];exact dZ hm s a5 n n es w6 e (Nat.pos_of_ne_zero h0) (Nat.le_refl _) (by rw[h4,Ai];exact Nat.le_refl _) hz (λ i cs m4 j c hj=>by simpa using h6 i cs m4 j c hj) m6
end
end Go.c4
namespace Go.c4
open Go.RowKit
section
variable {B:Nat} {S:Nat->Prop} {w0:World} {m:M}
variable {P:Program} {num:Nat->Nat} {o:Oper} {a:Act} {ρ:AM->AV}
theorem T5 {x:AV} {v:Value} (h:CV B S m x v) (h1:x ≠ .any) (h2 : ∀ cs,x ≠ .agg cs) (h3 : ∀ cs,x ≠ .j4 cs) (h4 : ∀ p f g cs,x ≠ .fn p f g cs:=by intros;simp):CC B S m x v:=by
 cases h with
 | any=>exact absurd rfl h1
 | j4 as=>exact absurd rfl (h3 as)
 | ca h=>cases h with
  | one h=>exact h
  | agg cs=>exact absurd rfl (h2 cs)
  | fn p f g cs=>exact absurd rfl (h4 p f g cs)
theorem P9 {s t i j:Nat} {v:Value} (h:CV B S m (.ptr s t i j) v) : ∃ ad,v = .pointer (some ad)/\t<m.own.g7 s /\ ∀ b,m.own.get s t=some b -> ∃ g,m.ν s t=some g/\ad=⟨g,i*b.a5+j,none⟩:=by
 cases T5 h (by simp) (by simp) (by simp) with
 | rd h=>cases h
 | ptr s t i j ad ht h'=>exact ⟨ad,rfl,ht,h'⟩
theorem WT {cs:List AV} {v:Value} (h:CV B S m (.o7 cs) v) : ∃ (b o:Nat) (u:Nat->Value) (l:Bool),v = .pointer (some ⟨b,o,none⟩)/\(cs≠[]->safe B S m l b)/\(∀ j c,cs[j]? = some c->m.w.cell? ⟨b,o+j,none⟩=some (u j))/\(∀ j c,cs[j]? = some c->Rd m.w (safe B S m) c (u j)):=by
 cases T5 h (by simp) (by simp) (by simp) with
 | rd h=>cases h
 | o7 _ b o u l h1 h2 h3=>exact ⟨b,o,u,l,rfl,h1,h2,h3⟩
theorem OX {s t z off len:Nat} {v:Value} (h:CV B S m (.row s t z off len) v) : ∃ (ad:Option Addr) (cap:Nat),v = .slice ad len cap/\t<m.own.g7 s/\0<z/\len<=cap/\(0<len->ad.isSome=true) /\
  ∀ b,m.own.get s t=some b->b.a5=z/\((len=0/\cap=0) \/ ∃ g arr e,m.ν s t=some g/\ad=some ⟨g,off*z,none⟩/\m.w.heap[g]? = some (.cells arr e (0,0))/\(off+cap)*z<=arr.size):=by
 cases T5 h (by simp) (by simp) (by simp) with
 | rd h=>cases h
 | row s t z off len ad cap ht aw fq ha h'=>exact ⟨ad,cap,rfl,ht,aw,fq,ha,h'⟩
theorem T7 {l:Bool} {es:List (List AV)} {v:Value} (h:CV B S m (.sl l es) v):Rd m.w (safe B S m) (.sl l es) v:=by
 cases T5 h (by simp) (by simp) (by simp) with
 | rd h=>exact h
theorem vA (hm:BF B S w0 m) (hs:B6 B S m ρ a.eval) {x':AM} (h:A2 P num o.op (.mw x')=true) {s t i j:Nat} (hx:ρ x' = .ptr s t i j):B9 B S w0 P o a m (.val (.ptr s t i j)):=by
 obtain ⟨x,j8,h1⟩:=Kw h;have hc:=hx ▸ hs x x' h1;obtain ⟨ad,hv,_,_⟩:=P9 hc;refine DL hm (u := .pointer (some ad)) ?_ (hv ▸ hc);simp [execOp,j8,hv]
theorem uL (hm:BF B S w0 m) (hs:B6 B S m ρ a.eval) {x':AM} {off:Nat} (h:A2 P num o.op (.a6 x' off)=true) {s t i j:Nat} (hx:ρ x' = .ptr s t i j):B9 B S w0 P o a m (.val (.ptr s t i (j+off))):=by
 obtain ⟨ty,x,f,fs,fd,inf,j8,h1,hu,hf,ho,hi,o8⟩:=iQ h;obtain ⟨ad,hv,ht,hb⟩:=P9 (hx ▸ hs x x' h1);refine DL hm (u := .pointer (some (ad.add off))) ?_ (.ca (.one (.ptr s t i (j+off) _ ht λ b j9 => ?_)))
 ·simp [execOp,j8,hv,Instr.fieldAt,run_underlying hu,hf,Instr.sureAddr,fieldPlace,sizeOf,typeInfo,hi,o8,ho]
 ·obtain ⟨g,hg,rfl⟩:=hb b j9
  exact ⟨g,hg,by rw[GI];simp;omega⟩
theorem uK (hm:BF B S w0 m) (hs:B6 B S m ρ a.eval) {x':AM} {off:Nat} (h:A2 P num o.op (.a6 x' off)=true) {cs:List AV} (hx:ρ x' = .o7 cs):B9 B S w0 P o a m (.val (.o7 (cs.drop off))):=by
 obtain ⟨ty,x,f,fs,fd,inf,j8,h1,hu,hf,ho,hi,o8⟩:=iQ h;obtain ⟨b,ob,u,l,hv,hR,hc,hr⟩:=WT (hx ▸ hs x x' h1);refine DL hm (u := .pointer (some ⟨b,ob+off,none⟩)) ?_ (.ca (.one (.o7 _ b (ob+off) (λ j=>u (off+j)) l (λ k8=>hR (λ e=>k8 (by simp [e]))) (λ j c hj => ?_) (λ j c hj => ?_))))
 ·simp [execOp,j8,hv,Instr.fieldAt,run_underlying hu,hf,Instr.sureAddr,fieldPlace,sizeOf,typeInfo,hi,o8,ho,GI]
 ·rw[List.getElem?_drop]at hj
  rw[Nat.add_assoc];exact hc _ c hj
 ·rw[List.getElem?_drop]at hj
  exact hr _ c hj
theorem SC {agg:Bool} {cs:List AV} {v:AV} (h:HV agg cs=some v) {vs:List Value} (hc:CL B S m cs vs):CV B S m v (if agg then .agg vs.toArray else vs.getD 0 undef)/\(agg=false->vs.length=1):=by
 unfold HV at h;cases agg with
 | true =>
  obtain rfl:AV.agg cs=v:=by simpa using h
  exact ⟨.ca (.agg cs vs hc),by simp⟩
 | false =>
  simp only[Bool.false_eq_true,if_false]at h;split at h
  ·rename_i c
   obtain rfl:c=v:=by simpa using h
   obtain ⟨u,hu,s8⟩:=P8 hc (j:=0) (c:=c) rfl;refine ⟨?_,λ_=>by rw[<-hc.1];rfl⟩;simp only[Bool.false_eq_true,if_false,List.getD,hu,Option.getD_some];exact .ca (.one s8)
  ·cases h
theorem lH (t:TypeId) (agg:Bool) (inf:TypeInfo) (cf : ∀ w,(isAgg t).run P w = .ok agg w) (hi:P.info? t=some inf) (vs:List Value) (off n:Nat) (hn:inf.size=n) (hle:off+n<=vs.length) (h1:agg=false->n=1) (w:World) :
  (Go.part t vs.toArray off).run P w = .ok (if agg then .agg ((vs.drop off).take n).toArray else ((vs.drop off).take n).getD 0 undef) w:=by
 unfold Go.part;rw[Sem.run_bind,cf w];cases agg with
 | true=>simp [sizeOf,typeInfo,hi,hn,List.extract_eq_take_drop]
 | false =>
  have l6:off<vs.length:=by have:=h1 rfl;omega
  simp [l6,h1 rfl]
theorem uM (hm:BF B S w0 m) (hs:B6 B S m ρ a.eval) {x':AM} {off n:Nat} {agg:Bool} (h:A2 P num o.op (.iq x' off n agg)=true) {cs ds:List AV} {v:AV} (hx:ρ x' = .agg cs) (hp:part cs off n=some ds) (hv:HV agg ds=some v) :
  B9 B S w0 P o a m (.val v):=by
 obtain ⟨ty,x,f,fs,fd,inf,j8,h1,hu,hf,ho,hi,o8,cf,h0⟩:=Kp h;obtain ⟨vs,u5,n6⟩:=T4 (hx ▸ hs x x' h1);unfold c4.part at hp;split at hp
 ·rename_i hle
  obtain rfl:(cs.drop off).take n=ds:=by simpa using hp
  obtain ⟨q6,cj⟩:=SC hv (cP n6 off n);have hl:=n6.1;have qf:agg=false->n=1:=λ e=>by have:=cj e;simp at this;omega
  refine DL hm ?_ q6;simp only[execOp,j8,Sem.run_bind,Instr.field,run_underlying hu,Result.andThen_ok,hf,u5,asAgg,Sem.run_pure,ho];rw[lH fd.type agg inf cf hi vs off n o8 (by omega) qf];rfl
 ·cases hp
theorem uR (hm:BF B S w0 m) (hs:B6 B S m ρ a.eval) {len a5:Nat} {agg:Bool} {x' i':AM} (h:A2 P num o.op (.idx len a5 agg x' i')=true) {k:IntKind} {n:Int} {cs ds:List AV} {v:AV} (m4:ρ i' = .int k n) (hx:ρ x' = .agg cs) (h0:0<=n) (hn:n<len)
  (hp:part cs (n.toNat*a5) a5=some ds) (hv:HV agg ds=some v):B9 B S w0 P o a m (.val v):=by
 obtain ⟨ty,x,i,e,inf,j8,h1,h2,hu,hi,o8,cf⟩:=Kq h;obtain ⟨vs,u5,n6⟩:=T4 (hx ▸ hs x x' h1);have ml:=F5 (m4 ▸ hs i i' h2);unfold c4.part at hp;split at hp
 ·rename_i hle
  obtain rfl:(cs.drop (n.toNat*a5)).take a5=ds:=by simpa using hp
  obtain ⟨q6,cj⟩:=SC hv (cP n6 (n.toNat*a5) a5);have hl:=n6.1;have qf:agg=false->a5=1:=λ e=>by have:=cj e;simp at this;omega
  refine DL hm ?_ q6;simp only[execOp,j8,Sem.run_bind,Instr.index,ml,asIntOf,Sem.run_pure,run_underlying hu,Result.andThen_ok,u5];rw[if_pos ⟨h0,hn⟩];simp only[Sem.run_bind,sizeOf,typeInfo,run_program,hi,Sem.run_pure,Result.andThen_ok,o8];rw[lH e agg inf cf hi vs (n.toNat*a5) a5 o8 (by omega) qf];rfl
 ·cases hp
theorem uN (hm:BF B S w0 m) (hs:B6 B S m ρ a.eval) {len a5:Nat} {x' i':AM} (h:A2 P num o.op (.a8 (some len) a5 x' i')=true) {k:IntKind} {n:Int} {s t i0 j:Nat} (m4:ρ i' = .int k n) (hx:ρ x' = .ptr s t i0 j) (h0:0<=n) (hn:n<len) :
  B9 B S w0 P o a m (.val (.ptr s t i0 (j+n.toNat*a5))):=by
 obtain ⟨ty,x,i,e,inf,j8,h1,h2,hi,o8,al⟩:=UU h;rcases al with ⟨fv,hl,hu,l6⟩|⟨hl,_⟩
 ·obtain rfl:len=fv:=by simpa using hl
  obtain ⟨ad,hv,ht,hb⟩:=P9 (hx ▸ hs x x' h1);have ml:=F5 (m4 ▸ hs i i' h2);refine DL hm (u := .pointer (some (ad.add (n.toNat*a5)))) ?_ (.ca (.one (.ptr s t i0 (j+n.toNat*a5) _ ht λ b j9 => ?_)))
  ·simp [execOp,j8,hv,ml,Instr.indexAt,asIntOf,run_underlying hu,Instr.sureAddr,sizeOf,typeInfo,hi,o8,h0,hn]
  ·obtain ⟨g,hg,rfl⟩:=hb b j9
   exact ⟨g,hg,by rw[GI];simp;omega⟩
 ·cases hl
theorem uO (hm:BF B S w0 m) (hs:B6 B S m ρ a.eval) {len a5:Nat} {x' i':AM} (h:A2 P num o.op (.a8 (some len) a5 x' i')=true) {k:IntKind} {n:Int} {cs:List AV} (m4:ρ i' = .int k n) (hx:ρ x' = .o7 cs) (h0:0<=n) (hn:n<len) :
  B9 B S w0 P o a m (.val (.o7 (cs.drop (n.toNat*a5)))):=by
 obtain ⟨ty,x,i,e,inf,j8,h1,h2,hi,o8,al⟩:=UU h;rcases al with ⟨fv,hl,hu,l6⟩|⟨hl,_⟩
 ·obtain rfl:len=fv:=by simpa using hl
  obtain ⟨b,ob,u,l,hv,hR,hc,hr⟩:=WT (hx ▸ hs x x' h1);have ml:=F5 (m4 ▸ hs i i' h2);refine DL hm (u := .pointer (some ⟨b,ob+n.toNat*a5,none⟩)) ?_ (.ca (.one (.o7 _ b (ob+n.toNat*a5) (λ j=>u (n.toNat*a5+j)) l (λ k8=>hR (λ e=>k8 (by simp [e]))) (λ j c hj => ?_) (λ j c hj => ?_))))
  ·simp [execOp,j8,hv,ml,Instr.indexAt,asIntOf,run_underlying hu,Instr.sureAddr,sizeOf,typeInfo,hi,o8,h0,hn,GI]
  ·rw[List.getElem?_drop]at hj
   rw[Nat.add_assoc];exact hc _ c hj
  ·rw[List.getElem?_drop]at hj
   exact hr _ c hj
 ·cases hl
theorem lF (ty e:TypeId) (inf:TypeInfo) (hu:P.underlying ty=some (.slice e)) (hi:P.info? e=some inf) (ad:Addr) (len cap:Nat) (k:IntKind) (n:Int) (h0:0<=n) (hn:n<len) (w:World) :
  (Instr.indexAt ty (.slice (some ad) len cap) (.int k n)).run P w = .ok (.pointer (some (ad.add (n.toNat*inf.size)))) w:=by
 simp [Instr.indexAt,asIntOf,run_underlying hu,sizeOf,typeInfo,hi,h0,hn]
theorem uP (hm:BF B S w0 m) (hs:B6 B S m ρ a.eval) {a5:Nat} {x' i':AM} (h:A2 P num o.op (.a8 none a5 x' i')=true) {k:IntKind} {n:Int} {s t z off len:Nat} (m4:ρ i' = .int k n) (hx:ρ x' = .row s t z off len) (h0:0<=n) (hn:n<len) (hz:z=a5) :
  B9 B S w0 P o a m (.val (.ptr s t (off+n.toNat) 0)):=by
 obtain ⟨ty,x,i,e,inf,j8,h1,h2,hi,o8,al⟩:=UU h;rcases al with ⟨_,hl,_⟩|⟨_,hu,_⟩
 ·cases hl
 ·obtain ⟨ad,cap,hv,ht,aw,fq,ha,hb⟩:=OX (hx ▸ hs x x' h1)
  have ml:=F5 (m4 ▸ hs i i' h2);obtain ⟨vg,rfl⟩:=Option.isSome_iff_exists.1 (ha (by omega));refine DL hm (u := .pointer (some (vg.add (n.toNat*a5)))) ?_ (.ca (.one (.ptr s t (off+n.toNat) 0 _ ht λ b j9 => ?_)))
  ·simp only[execOp,j8,hv,ml,Sem.run_bind]
   rw[lF ty e inf hu hi vg len cap k n h0 hn,o8];rfl
  ·obtain ⟨dt,al⟩:=hb b j9
   rcases al with ⟨mn,_⟩|⟨g,arr,e',hg,er,_,_⟩
   ·omega
   ·obtain rfl:vg=⟨g,off*z,none⟩:=by simpa using er
    exact ⟨g,hg,by rw[GI,dt,<-hz,Nat.add_mul];rfl⟩
theorem uQ (hm:BF B S w0 m) (hs:B6 B S m ρ a.eval) {a5:Nat} {x' i':AM} (h:A2 P num o.op (.a8 none a5 x' i')=true) {k:IntKind} {n:Int} {l:Bool} {es:List (List AV)} {cs:List AV} (m4:ρ i' = .int k n) (hx:ρ x' = .sl l es) (h0:0<=n) (hn:es[n.toNat]? = some cs) (hz:cs.length=a5) :
  B9 B S w0 P o a m (.val (.o7 cs)):=by
 obtain ⟨ty,x,i,e,inf,j8,h1,h2,hi,o8,al⟩:=UU h;rcases al with ⟨_,hl,_⟩|⟨_,hu,_⟩
 ·cases hl
 ·have gj:=T7 (hx ▸ hs x x' h1)
  have ml:=F5 (m4 ▸ hs i i' h2);have l6:n.toNat<es.length:=(zS hn).1;generalize u5:a.eval x=v at gj;cases gj with
  | eh=>simp at l6
  | sl _ _ b ob q5 cap u k8 hp hR s9 bj hc hr =>
   have Ah:q5=a5:=by
    rw[<-hz];exact (bj cs (zM hn)).symm
   subst Ah;refine DL hm (u := .pointer (some ⟨b,ob+n.toNat*q5,none⟩)) ?_ (.ca (.one (.o7 _ b (ob+n.toNat*q5) (u n.toNat) l (λ_=>hR) (λ j c hj => ?_) (λ j c hj=>hr _ cs hn j c hj))))
   ·simp only[execOp,j8,u5,ml,Sem.run_bind]
    rw[lF ty e inf hu hi ⟨b,ob,none⟩ es.length cap k n h0 (by omega),o8,GI];rfl
   ·rw[Nat.add_assoc]
    exact hc _ cs hn j c hj
end
end Go.c4

namespace Go.c4
open Go.RowKit
section
variable {B:Nat} {S:Nat->Prop} {w0:World} {m:M}
variable {P:Program} {num:Nat->Nat} {o:Oper} {a:Act} {ρ:AM->AV}
theorem ZR (t:TypeId) (agg:Bool) (n:Nat) (cf : ∀ w,(isAgg t).run P w = .ok agg w) (hn:if agg then ∃ i,P.info? t=some i/\i.size=n else n=1) (ad:Addr) (vs:List Value) (hl:vs.length=n) (w:World)
  (hc : ∀ q v,vs[q]? = some v->w.cell? (ad.add q)=some v):(Instr.loadAt t (.pointer (some ad))).run P w = .ok (if agg then .agg vs.toArray else vs.getD 0 undef) w:=by
 unfold Instr.loadAt loadVar;simp only[Instr.sureAddr,Sem.run_bind,Sem.run_pure,Result.andThen_ok,cf w];cases agg with
 | true =>
  simp only[if_true]at hn;obtain ⟨i,hi,hs⟩:=hn;have:=run_loadCells_list (P:=P) w ad vs hc
  simp [sizeOf,typeInfo,hi,hs,<-hl,this]
 | false =>
  simp only[Bool.false_eq_true,if_false]at hn ⊢;have l6:0<vs.length:=by omega
  have h0:=hc 0 vs[0] (zE l6);have qe:w.cell? ad=some vs[0]:=by simpa [Addr.add] using h0
  simp [load,Sem.run,qe,l6]
theorem kI (hm:BF B S w0 m) {s t i j n:Nat} {cs:List AV} (h:m.own.js s t i j n=some cs) : ∃ b g arr e,m.own.get s t=some b/\(0<n->m.ν s t=some g/\m.w.heap[g]? = some (.cells arr e (0,0))) /\
  ∃ vs:List Value,vs.length=n/\CL B S m cs vs /\ ∀ q v,vs[q]? = some v->arr[i*b.a5+j+q]? = some v:=by
 unfold AG.js at h;cases hb:m.own.get s t with
 | none=>simp [hb]at h
 | some b =>
  simp only[hb]at h;cases he:b.es[i]? with
  | none=>simp [he]at h
  | some ds =>
   simp only[he,part]at h;split at h
   ·rename_i hle
    obtain rfl:(ds.drop j).take n=cs:=by simpa using h
    obtain ⟨hz,y5⟩:=hm.c9 s t b hb;cases hν:m.ν s t with
    | none =>
     rw[hν]at y5;rw[y5]at he;simp at he
    | some g =>
     rw[hν]at y5;obtain ⟨hB,arr,e,hh,s8⟩:=y5;have o8 : ∀ q,q<n -> ∃ u,arr[i*b.a5+j+q]? = some u:=λ q hq=>by
      have l6:j+q<ds.length:=by omega
      obtain ⟨u,hu,_⟩:=s8 i ds he (j+q) ds[j+q] (zE l6);exact ⟨u,by rw[<-hu];congr 1;omega⟩
     refine ⟨b,g,arr,e,rfl,λ_=>⟨rfl,hh⟩,(arr.toList.drop (i*b.a5+j)).take n,?_,⟨?_,?_⟩,?_⟩
     ·rw[List.length_take,List.length_drop]
      rcases Nat.eq_zero_or_pos n with h0|h0
      ·omega
      ·obtain ⟨u,hu⟩:=o8 (n-1) (by omega)
       have:=(Array.getElem?_eq_some_iff.1 hu).1
       simp;omega
     ·rw[List.length_take,List.length_take,List.length_drop,List.length_drop]
      rcases Nat.eq_zero_or_pos n with h0|h0
      ·omega
      ·obtain ⟨u,hu⟩:=o8 (n-1) (by omega)
       have:=(Array.getElem?_eq_some_iff.1 hu).1
       simp;omega
     ·intro q c v hq hv
      rw[List.getElem?_take]at hq hv;split at hq
      ·rename_i zo
       rw[if_pos zo]at hv;rw[List.getElem?_drop]at hq hv;obtain ⟨u,hu,hc⟩:=s8 i ds he (j+q) c hq;have:some u=some v:=by
        rw[<-hu,<-hv];simp only[Array.getElem?_toList];congr 1;omega
       obtain rfl:u=v:=by simpa using this
       exact hc
      ·cases hq
     ·intro q v hv
      rw[List.getElem?_take]at hv;split at hv
      ·rw[List.getElem?_drop]at hv
       simpa using hv
      ·cases hv
   ·cases h
theorem TT {w:World} {g p:Nat} {arr:Array Value} {e:TypeId} (h:w.heap[g]? = some (.cells arr e (0,0))):w.cell? ⟨g,p,none⟩=arr[p]? := by
 simp [World.cell?,h]
theorem uT (hm:BF B S w0 m) (hs:B6 B S m ρ a.eval) {agg:Bool} {n:Nat} {x':AM} (h:A2 P num o.op (.ld agg n x')=true) {s t i j:Nat} {cs:List AV} {v:AV} (hx:ρ x' = .ptr s t i j) (hl:m.own.js s t i j n=some cs) (hv:HV agg cs=some v) :
  B9 B S w0 P o a m (.val v):=by
 obtain ⟨ty,x,j8,h1,cf,hn⟩:=iR h;obtain ⟨ad,u5,ht,hb⟩:=P9 (hx ▸ hs x x' h1);obtain ⟨b,g,arr,e,l7,hg,vs,mu,n6,eg⟩:=kI hm hl;obtain ⟨q6,_⟩:=SC hv n6;refine DL hm ?_ q6;simp only[execOp,j8,Sem.run_bind,u5];rw[ZR ty agg n cf hn ad vs mu m.w (λ q u hq => ?_)]
 ·rfl
 ·have l6:q<vs.length:=(zS hq).1
  obtain ⟨uq,fj⟩:=hg (by omega);obtain ⟨g',ae,rfl⟩:=hb b l7;obtain rfl:g=g':=by rw[uq]at ae;simpa using ae
  rw[GI,TT fj];exact eg q u hq
theorem uS (hm:BF B S w0 m) (hs:B6 B S m ρ a.eval) {agg:Bool} {n:Nat} {x':AM} (h:A2 P num o.op (.ld agg n x')=true) {cs ds:List AV} {v:AV} (hx:ρ x' = .o7 cs) (hl:part cs 0 n=some ds) (hv:HV agg ds=some v) :
  B9 B S w0 P o a m (.val v):=by
 obtain ⟨ty,x,j8,h1,cf,hn⟩:=iR h;obtain ⟨b,ob,u,l,u5,hR,hc,hr⟩:=WT (hx ▸ hs x x' h1);unfold c4.part at hl;split at hl
 ·rename_i hle
  obtain rfl:(cs.drop 0).take n=ds:=by simpa using hl
  have n6:CL B S m ((cs.drop 0).take n) ((List.range n).map u):=by
   refine ⟨by simp;omega,λ q c v' hq iy => ?_⟩;simp only[List.drop_zero,List.getElem?_take]at hq;split at hq
   ·rename_i zo
    simp [zo]at iy;subst iy;exact .rd (hr q c hq)
   ·cases hq
  obtain ⟨q6,_⟩:=SC hv n6;refine DL hm ?_ q6;simp only[execOp,j8,Sem.run_bind,u5];rw[ZR ty agg n cf hn ⟨b,ob,none⟩ ((List.range n).map u) (by simp) m.w (λ q w' hq => ?_)]
  ·rfl
  ·have zo:q<n:=by have:=(zS hq).1;simpa using this
   simp [zo]at hq;subst hq;rw[GI];exact hc q cs[q] (zE (by omega))
 ·cases hl
theorem VR {α:Type} (l:List α) (off:Nat) (vs:List α) (h:off+vs.length<=l.length) (q:Nat):(l.take off++vs++l.drop (off+vs.length))[q]? = if q<off then l[q]? else if q<off+vs.length then vs[q-off]? else l[q]? := by
 rw[List.append_assoc];by_cases h1:q<off
 ·rw[if_pos h1,List.getElem?_append_left (by simp;omega),List.getElem?_take,if_pos h1]
 ·rw[if_neg h1,List.getElem?_append_right (by simp;omega)]
  have e1:(l.take off).length=off:=by simp;omega
  rw[e1];by_cases h2:q<off+vs.length
  ·rw[if_pos h2,List.getElem?_append_left (by omega)]
  ·rw[if_neg h2,List.getElem?_append_right (by omega),List.getElem?_drop]
   congr 1;omega
theorem WJ (hm:BF B S w0 m) {g:Nat} (hB:B<=g) (arr:Array Value):Below B w0 (m.w.setRow g arr) :=
 hm.below.trans ⟨rfl,rfl,rfl,by simp,λ k hk=>setRow_other _ _ _ _ (by omega)⟩
theorem eA (hm:BF B S w0 m) (hs:B6 B S m ρ a.eval) {n:Nat} {x' v':AM} (h:A2 P num o.op (.st n x' v')=true) {s t i j:Nat} {vs:List AV} {l8:AG} (hx:ρ x' = .ptr s t i j) (hv:cellsOf (ρ v')=some vs) (hn:vs.length=n) (k6:m.own.fw s t i j vs=some l8) :
  B9 B S w0 P o a m (.y9 (.j4 []) l8):=by
 obtain ⟨ty,x,v,inf,j8,h1,h2,hi,o8⟩:=Iz h;obtain ⟨ad,u5,ht,hb⟩:=P9 (hx ▸ hs x x' h1);have n6:=T6 (hs v v' h2) hv;unfold AG.fw at k6;cases l7:m.own.get s t with
 | none=>simp [l7]at k6
 | some b =>
  simp only[l7]at k6;cases he:b.es[i]? with
  | none=>simp [he]at k6
  | some cs =>
   simp only[he]at k6;split at k6
   ·rename_i hle
    obtain rfl:=Option.some.inj k6;obtain ⟨hz,y5⟩:=hm.c9 s t b l7;obtain ⟨g,hg,rfl⟩:=hb b l7;rw[hg]at y5;obtain ⟨hB,arr,e,hh,s8⟩:=y5;have np:cs.length=b.a5:=hz cs (zM he);have hlen:(a.eval v).cells.toList.length=vs.length:=n6.1.symm;have df:i<b.es.length:=(zS he).1;have uw:i*b.a5+j+vs.length<=arr.size:=by
     rcases Nat.eq_zero_or_pos vs.length with h0|h0
     ·rcases Nat.eq_zero_or_pos j with yx|yx
      ·rw[h0,yx]
       rcases Nat.eq_zero_or_pos i with fp|fp
       ·rw[fp];omega
       ·rcases Nat.eq_zero_or_pos b.a5 with aw|aw
        ·rw[aw];omega
        ·have wc:i-1<b.es.length:=by omega
         have fk:(b.es[i-1]).length=b.a5:=hz _ (List.getElem_mem wc);obtain ⟨u,hu,_⟩:=s8 (i-1) _ (zE wc) (b.a5-1) _ (zE (by omega));have:=(Array.getElem?_eq_some_iff.1 hu).1
         have e1:(i-1)*b.a5+b.a5=i*b.a5:=by
          rw[<-Nat.succ_mul];congr 1;omega
         omega
      ·obtain ⟨u,hu,_⟩:=s8 i cs he (j-1) cs[j-1] (zE (by omega))
       have:=(Array.getElem?_eq_some_iff.1 hu).1
       omega
     ·obtain ⟨u,hu,_⟩:=s8 i cs he (j+vs.length-1) cs[j+vs.length-1] (zE (by omega))
      have:=(Array.getElem?_eq_some_iff.1 hu).1
      omega
    have cj:=rV n6;have oh:=run_storeCells_at (P:=P) g (i*b.a5+j) e (a.eval v).cells.toList 0 arr m.w hh (by rw[hlen];omega) cj;generalize cq:(arr.toList.take (i*b.a5+j+0)++(a.eval v).cells.toList++arr.toList.drop (i*b.a5+j+0+(a.eval v).cells.toList.length)).toArray=n8 at oh;have rk : ∀ p,n8[p]? = if p<i*b.a5+j then arr[p]? else if p<i*b.a5+j+vs.length then (a.eval v).cells.toList[p-(i*b.a5+j)]? else arr[p]? := λ p=>by
     rw[<-cq];simp only[Nat.add_zero,List.getElem?_toArray];rw[VR _ _ _ (by rw[hlen];simpa using uw),hlen];simp only[Array.getElem?_toList]
    have eb:n8.size=arr.size:=by
     rw[<-cq];simp [hlen];have:=hlen
     simp at this;omega
    obtain ⟨k1,k2⟩:=mV hm s t b ⟨b.a5,b.es.set i (splice cs j vs)⟩ l7 g hg arr n8 e hh rfl (λ y hy=>by
      rcases List.mem_or_eq_of_mem_set hy with hy|hy
      ·exact hz y hy
      ·rw[hy,<-np];simp [splice];omega) eb
     (λ i' bl m4 q c hq=>by
      show ∃ u,n8[i'*b.a5+q]? = some u/\_;change (b.es.set i (splice cs j vs))[i']? = some bl at m4;by_cases Gq:i'=i
      ·subst Gq
       rw[List.getElem?_set_self df]at m4;obtain rfl:splice cs j vs=bl:=by simpa using m4
       unfold splice at hq;rw[VR _ _ _ hle]at hq;rw[rk];by_cases sc:q<j
       ·rw[if_pos sc]at hq
        rw[if_pos (by omega)];exact s8 i' cs he q c hq
       ·rw[if_neg sc]at hq
        rw[if_neg (by omega)];by_cases wm:q<j+vs.length
        ·rw[if_pos wm]at hq
         rw[if_pos (by omega)];obtain ⟨u,hu,y8⟩:=P8 n6 hq;exact ⟨u,by rw[<-hu];congr 1;omega,y8⟩
        ·rw[if_neg wm]at hq
         rw[if_neg (by omega)];exact s8 i' cs he q c hq
      ·rw[List.getElem?_set_ne (by omega)]at m4
       have zn:q<b.a5:=by
        rw[<-hz bl (zM m4)];exact (zS hq).1
       obtain ⟨u,hu,y8⟩:=s8 i' bl m4 q c hq;refine ⟨u,?_,y8⟩;rw[rk,<-hu];rcases Nat.lt_or_gt_of_ne Gq with l6|lu
       ·have:(i'+1)*b.a5<=i*b.a5:=Nat.mul_le_mul_right _ l6
        rw[Nat.succ_mul]at this;rw[if_pos (by omega)]
       ·have:(i+1)*b.a5<=i'*b.a5:=Nat.mul_le_mul_right _ lu
        rw[Nat.succ_mul]at this;rw[if_neg (by omega),if_neg (by omega)])
     (m.w.setRow g n8) (WJ hm hB n8) (by simp) (λ k hk=>setRow_other _ _ _ _ hk) (setRow_heap _ _ _ _ _ _ hh)
    intro K Q hK;refine Nb (w':=m.w.setRow g n8) ?_ (hK undef ⟨m.ν,_,m.w.setRow g n8⟩ rfl k1 k2 jK);have Em:(a.eval v).cells.size=inf.size:=by rw[o8,<-hn,<-hlen];simp
    simp only[execOp,j8,u5,Instr.storeAt,storeVar,Instr.sureAddr,Sem.run_bind,Sem.run_pure,Result.andThen_ok,sizeOf,typeInfo,run_program,hi];rw[if_neg (by simpa using Em)];simp only[Sem.run_bind,Sem.run_pure,Result.andThen_ok,oh]
   ·cases k6
theorem uV (hm:BF B S w0 m) (hs:B6 B S m ρ a.eval) {s a5 bytes:Nat} {zero:List AV} {l' c':AM} (h:A2 P num o.op (.mk s a5 bytes zero l' c')=true) {kl kc:IntKind} {l c:Int} (hl:ρ l' = .int kl l) (hc:ρ c' = .int kc c) (h0:0<=l) (fq:l<=c) (hb:c*bytes<=D6) (tk:c<=9223372036854775807) (hz:zero.length=a5) :
  B9 B S w0 P o a m (.new s ⟨a5,List.replicate l.toNat zero⟩ (λ t => .row s t a5 0 l.toNat)):=by
 obtain ⟨ty,lx,cx,e,inf,z,j8,h1,h2,hu,hi,o8,gd,aw,bj,k8⟩:=Kt h;have el:=F5 (hl ▸ hs lx l' h1);have ec:=F5 (hc ▸ hs cx c' h2);have n6:CL B S m zero z.cells.toList:=QD bj;have Sl:z.cells.size=a5:=by rw[<-hz,n6.1];simp
 refine dZ hm s a5 l.toNat c.toNat _ (madeCells z.cells (c.toNat*inf.size)) e (Nat.pos_of_ne_zero k8) (by omega) (by rw[size_madeCells,o8];exact Nat.le_refl _) (λ x hx=>by rw[(List.mem_replicate.1 hx).2,hz]) (λ i cs m4 j c1 hj => ?_) ?_
 ·rw[List.getElem?_replicate]at m4
  split at m4
  ·rename_i df
   obtain rfl:zero=cs:=by simpa using m4
   obtain ⟨u,bn,y8⟩:=P8 n6 hj;refine ⟨u,?_,y8⟩;have bm:j<a5:=by rw[<-hz];exact (zS hj).1
   have l6:i*a5+j<c.toNat*inf.size:=by
    rw[o8];have h3:(i+1)*a5<=c.toNat*a5:=Nat.mul_le_mul_right _ (by omega);rw[Nat.succ_mul]at h3;omega
   have Dq:(i*a5+j)%z.cells.size=j:=by rw[Sl,Nat.add_comm,Nat.add_mul_mod_self_right,Nat.mod_eq_of_lt bm]
   have wq:z.cells[j]? = some u:=by simpa using bn
   have Qq:j<z.cells.size:=(Array.getElem?_eq_some_iff.1 wq).1;have ef:z.cells[j]=u:=(Array.getElem?_eq_some_iff.1 wq).2;simp [madeCells,l6,Dq,Qq,ef]
  ·cases m4
 ·have:=run_make (P:=P) m.w ty e inf z hu hi aw kl kc l c h0 fq (by rw[gd,Int.mul_comm];simp only[D6]at hb;omega) tk
  simp only[execOp,j8,el,ec,Sem.run_bind,this,Result.andThen_ok,Sem.run_pure]
theorem uJ (hm:BF B S w0 m) (hs:B6 B S m ρ a.eval) {x':AM} {i:Nat} (h:A2 P num o.op (.ext x' i)=true) {vs:List AV} {v:AV} (hx:ρ x' = .j4 vs) (hv:vs[i]? = some v):B9 B S w0 P o a m (.val v):=by
 obtain ⟨x,j8,h1⟩:=Ko h;obtain ⟨us,u5,hl,hc⟩:=WW (hx ▸ hs x x' h1);have l6:i<us.length:=by rw[<-hl];exact (zS hv).1
 refine DL hm (u:=us[i]) ?_ (.ca (hc i v us[i] hv (zE l6)));simp [execOp,j8,u5,Instr.extract,l6]
theorem uU (hm:BF B S w0 m) (hs:B6 B S m ρ a.eval) {x':AM} (h:A2 P num o.op (.len x')=true) {n:Nat} (hx:lenOf (ρ x')=some n):B9 B S w0 P o a m (.val (.int .i64 n)):=by
 obtain ⟨x,t,e,j8,h1,hu⟩:=Ks h;have q6:=hs x x' h1;obtain ⟨ad,cap,u5⟩ : ∃ ad cap,a.eval x = .slice ad n cap:=by
  generalize ρ x'=av at *;cases av with
  | sl l es =>
   have hr:=T7 q6;simp only[lenOf,Option.some.injEq]at hx;subst hx;generalize a.eval x=v at *;cases hr with
   | eh=>exact ⟨_,_,rfl⟩
   | sl=>exact ⟨_,_,rfl⟩
  | row s t z off len =>
   obtain ⟨ad,cap,hv,_⟩:=OX q6;simp only[lenOf,Option.some.injEq]at hx;subst hx;exact ⟨ad,cap,hv⟩
  | nil =>
   simp only[lenOf,Option.some.injEq]at hx;subst hx;exact ⟨_,_,M3 q6⟩
  | _=>simp [lenOf]at hx
 refine DL hm (u := .int .i64 n) ?_ (JP _ _);simp [execOp,j8,resolve,invoke,builtin,u5,Builtin.len_,run_underlying hu,goInt]
theorem uG (hm:BF B S w0 m) (hs:B6 B S m ρ a.eval) {x':AM} (h:A2 P num o.op (.da x')=true) (hx:ρ x' = .nil):B9 B S w0 P o a m (.val (.int .i64 0)):=by
 obtain ⟨x,t,e,j8,h1,hu⟩:=Kl h;have u5:=M3 (hx ▸ hs x x' h1);refine DL hm (u := .int .i64 0) ?_ (JP _ _);simp [execOp,j8,resolve,invoke,builtin,u5,Builtin.cap_,run_underlying hu,goInt]
theorem QC (hs:B6 B S m ρ a.eval) : ∀ {xs:List Operand} {ys:List AM},DR xs ys=true->xs.length=ys.length /\ ∀ (j:Nat) (x:Operand) (y:AM),xs[j]? = some x->ys[j]? = some y->CV B S m (ρ y) (a.eval x)
 | [],[],_=>⟨rfl,λ j x y h=>by simp at h⟩
 | x::r,y::l,h=>by
  simp only[DR,Bool.and_eq_true]at h;obtain ⟨So,iz⟩:=QC hs h.2;refine ⟨by simp [So],λ j x' y' hx hy => ?_⟩;cases j with
  | zero=>simp at hx hy;subst hx hy;exact hs _ _ h.1
  | succ j=>exact iz j x' y' (by simpa using hx) (by simpa using hy)
 | [],_::_,h=>by simp [DR]at h
 | _::_,[],h=>by simp [DR]at h
theorem lG (mx:Bool) (hs:B6 B S m ρ a.eval) (w:World) : ∀ (xs:List Operand) (ys:List AM) (v:AV) (u:Value) (r:AV),DR xs ys=true->CV B S m v u->IY mx v (ys.map ρ)=some r->(∃ k n,v = .int k n) -> ∃ k n,r = .int k n /\
  ((xs.map a.eval).foldlM (if mx then Builtin.max2 else Builtin.min2) u).run P w = .ok (.int k n) w
 | [],[],v,u,r,_,hc,hm,⟨k,n,hv⟩=>by
  simp only[List.map_nil,IY,Option.some.injEq]at hm;subst hm hv;obtain rfl:=F5 hc;exact ⟨k,n,rfl,by simp⟩
 | x::xr,y::yr,v,u,r,he,hc,hm,⟨k,n,hv⟩=>by
  simp only[DR,Bool.and_eq_true]at he;simp only[List.map_cons,IY]at hm;have hx:=hs x y he.1;subst hv;obtain rfl:=F5 hc;cases hy:ρ y with
  | int k' n' =>
   rw[hy]at hx hm;have Se:=F5 hx;simp only[NC]at hm;obtain ⟨k2,n2,rfl,h2⟩:=lG mx hs w xr yr _ (.int k (if mx then (if n'>n then n' else n) else (if n'<n then n' else n))) r he.2 (JP _ _) hm ⟨_,_,rfl⟩;refine ⟨k2,n2,rfl,?_⟩;simp only[List.map_cons,List.foldlM_cons,Sem.run_bind,Se];cases mx
   ·simpa [Builtin.min2] using h2
   ·simpa [Builtin.max2] using h2
  | _=>rw[hy]at hm;simp [NC]at hm
 | [],_::_,_,_,_,he,_,_,_=>by simp [DR]at he
 | _::_,[],_,_,_,he,_,_,_=>by simp [DR]at he
theorem uX (hm:BF B S w0 m) (hs:B6 B S m ρ a.eval) {mx:Bool} {m8:List AM} (h:A2 P num o.op (.mm mx m8)=true) {v r:AV} {l:List AV} (hx:m8.map ρ=v::l) (hv:IY mx v l=some r) (hi : ∃ k n,v = .int k n):B9 B S w0 P o a m (.val r):=by
 obtain ⟨xs,ts,j8,he⟩:=iS h;cases m8 with
 | nil=>simp at hx
 | cons y yr =>
  simp only[List.map_cons,List.cons.injEq]at hx;obtain ⟨rfl,rfl⟩:=hx;obtain ⟨xl⟩:=xs;cases xl with
  | nil=>simp [DR]at he
  | cons x xr =>
   simp only[DR,Bool.and_eq_true]at he;obtain ⟨k,n,rfl,m6⟩:=lG (P:=P) mx hs m.w xr yr (ρ y) (a.eval x) r he.2 (hs x y he.1) hv hi;refine DL hm (u := .int k n) ?_ (JP _ _);cases mx
   ·simp only[execOp,j8,resolve,invoke,builtin,Builtin.min_,Sem.run_bind,Sem.run_pure,Result.andThen_ok]at m6 ⊢
    simp at m6 ⊢;rw[m6];rfl
   ·simp only[execOp,j8,resolve,invoke,builtin,Builtin.max_,Sem.run_bind,Sem.run_pure,Result.andThen_ok]at m6 ⊢
    simp at m6 ⊢;rw[m6];rfl
end
end Go.c4

namespace Go.c4
open Go.RowKit
section
variable {B:Nat} {S:Nat->Prop} {w0:World} {m:M}
variable {P:Program} {num:Nat->Nat} {o:Oper} {a:Act} {ρ:AM->AV}
def GJ (ρ:AM->AV) (d:Nat):Option AM->Option Int
 | none=>some d
 | some y=>match ρ y with | .int _ n=>some n|_=>none
theorem VH (ty e:TypeId) (inf:TypeInfo) (hu:P.underlying ty=some (.slice e)) (hi:P.info? e=some inf) (hs:B6 B S m ρ a.eval) {lo m4:Option Operand} {ja yv:Option AM} (iv:MH lo ja=true) (Bc:MH m4 yv=true)
  (ad:Option Addr) (len cap:Nat) (l h:Int) (hl:GJ ρ 0 ja=some l) (hh:GJ ρ len yv=some h) (h0:0<=l) (Tx:l<=h) (Tu:h<=len) (fq:len<=cap) (w:World) :
  (Instr.sliceAt ty (.slice ad len cap) (lo.map a.eval) (m4.map a.eval) none).run P w = .ok (.slice (if cap=l.toNat then ad else ad.map (·.add (l.toNat*inf.size))) (h.toNat-l.toNat) (cap-l.toNat)) w:=by
 have ml : ∀ {x:Option Operand} {y:Option AM} {d:Nat} {n:Int},MH x y=true->GJ ρ d y=some n->(x=none/\y=none/\n=d) \/ ∃ x' k,x=some x'/\a.eval x' = .int k n:=by
  intro x y d n mv hb;cases x with
  | none=>cases y with
   | none=>simp [GJ]at hb;exact .inl ⟨rfl,rfl,hb.symm⟩
   | some y=>simp [MH]at mv
  | some x=>cases y with
   | none=>simp [MH]at mv
   | some y =>
    simp only[MH]at mv;simp only[GJ]at hb;cases hy:ρ y with
    | int k q =>
     rw[hy]at hb;simp only[Option.some.injEq]at hb;subst hb;exact .inr ⟨x,k,rfl,F5 (hy ▸ hs x y mv)⟩
    | _=>rw[hy]at hb;cases hb
 have rn:h<=(cap:Int):=by omega
 unfold Instr.sliceAt Instr.slice Instr.sliceBounds;rcases ml iv hl with ⟨rfl,_,rfl⟩|⟨x1,k1,rfl,e1⟩<;>rcases ml Bc hh with ⟨rfl,_,rfl⟩|⟨x2,k2,rfl,e2⟩
 ·simp [run_underlying hu,sizeOf,typeInfo,hi]
 ·have uc:=run_sliceBound (P:=P) w k2 h cap .sliceAcap (by omega) rn
  simp [run_underlying hu,sizeOf,typeInfo,hi,e2,uc]
 ·have o6:=run_sliceBound (P:=P) w k1 l len .sliceB h0 (by omega)
  simp [run_underlying hu,sizeOf,typeInfo,hi,e1,o6]
 ·have uc:=run_sliceBound (P:=P) w k2 h cap .sliceAcap (by omega) rn
  have o6:=run_sliceBound (P:=P) w k1 l h.toNat .sliceB h0 (by omega);simp [run_underlying hu,sizeOf,typeInfo,hi,e1,e2,uc,o6]
theorem vC (hm:BF B S w0 m) (hs:B6 B S m ρ a.eval) {a5:Nat} {x':AM} {ja m4:Option AM} (h:A2 P num o.op (.bz a5 x' ja m4)=true) (hx:ρ x' = .nil) (hl:GJ ρ 0 ja=some 0) (hh:GJ ρ 0 m4=some 0):B9 B S w0 P o a m (.val .nil):=by
 obtain ⟨ty,x,lo,gf,e,inf,j8,h1,h2,h3,hu,hi,o8,k8⟩:=YP h;have u5:=M3 (hx ▸ hs x x' h1);have m6:=VH ty e inf hu hi hs h2 h3 none 0 0 0 0 hl hh (by omega) (by omega) (by omega) (by omega) m.w;refine DL hm (u := .slice none 0 0) ?_ (.ca (.one .nil));simp only[execOp,j8,u5,Sem.run_bind,Option.map_none,m6];rfl
theorem vD (hm:BF B S w0 m) (hs:B6 B S m ρ a.eval) {a5:Nat} {x':AM} {ja m4:Option AM} (h:A2 P num o.op (.bz a5 x' ja m4)=true) {s t z off len:Nat} {l u:Int} (hx:ρ x' = .row s t z off len) (hl:GJ ρ 0 ja=some l) (hh:GJ ρ len m4=some u) (h0:0<=l) (Be:l<=u) (ef:u<=len) (hz:z=a5) :
  B9 B S w0 P o a m (.val (.row s t z (off+l.toNat) (u.toNat-l.toNat))):=by
 obtain ⟨ty,x,lo,gf,e,inf,j8,h1,h2,h3,hu,hi,o8,k8⟩:=YP h;obtain ⟨ad,cap,u5,ht,aw,fq,ha,hb⟩:=OX (hx ▸ hs x x' h1);have m6:=VH ty e inf hu hi hs h2 h3 ad len cap l u hl hh h0 Be ef fq m.w;refine DL hm ?_ (.ca (.one (.row s t z (off+l.toNat) (u.toNat-l.toNat) (if cap=l.toNat then ad else ad.map (·.add (l.toNat*inf.size))) (cap-l.toNat) ht aw (by omega) (λ hp => ?_) λ b j9 => ?_)))
 ·simp only[execOp,j8,u5,Sem.run_bind,Option.map_none,m6]
  rfl
 ·rw[if_neg (by omega)]
  obtain ⟨vg,rfl⟩:=Option.isSome_iff_exists.1 (ha (by omega));rfl
 ·obtain ⟨dt,al⟩:=hb b j9
  refine ⟨dt,?_⟩;rcases al with ⟨mn,cr⟩|⟨g,arr,e',hg,er,Bb,hle⟩
  ·exact .inl ⟨by omega,by omega⟩
  ·by_cases hc:cap=l.toNat
   ·exact .inl ⟨by omega,by omega⟩
   ·refine .inr ⟨g,arr,e',hg,?_,Bb,?_⟩
    ·rw[if_neg hc,er,o8,hz]
     simp only[Option.map_some,GI,Nat.add_mul]
    ·rw[show off+l.toNat+(cap-l.toNat)=off+cap by omega]
     exact hle
theorem vE (hm:BF B S w0 m) (hs:B6 B S m ρ a.eval) {a5:Nat} {x':AM} {ja m4:Option AM} (h:A2 P num o.op (.bz a5 x' ja m4)=true) {lt:Bool} {es:List (List AV)} {l u:Int} (hx:ρ x' = .sl lt es) (hl:GJ ρ 0 ja=some l) (hh:GJ ρ es.length m4=some u) (h0:0<=l) (Be:l<=u) (ef:u<=es.length) (hz : ∀ e∈es,e.length=a5) :
  B9 B S w0 P o a m (.val (.sl lt ((es.take u.toNat).drop l.toNat))):=by
 obtain ⟨ty,x,lo,gf,e,inf,j8,h1,h2,h3,hu,hi,o8,k8⟩:=YP h;have gj:=T7 (hx ▸ hs x x' h1);generalize u5:a.eval x=v at gj;cases gj with
 | eh _ ad cap =>
  have m6:=VH ty e inf hu hi hs h2 h3 ad 0 cap l u hl hh h0 Be (by simpa using ef) (by omega) m.w;simp only[List.length_nil]at ef;rw[show (([]:List (List AV)).take u.toNat).drop l.toNat=[] by simp];refine DL hm (u := .slice (if cap=l.toNat then ad else ad.map (·.add (l.toNat*inf.size))) 0 (cap-l.toNat)) ?_ (.ca (.one (.rd (.eh lt _ _))));simp only[execOp,j8,u5,Sem.run_bind,Option.map_none,m6];rw[show u.toNat-l.toNat=0 by omega];rfl
 | sl _ _ b ob q5 cap uu oc hp hR s9 bj hc hr =>
  have m6:=VH ty e inf hu hi hs h2 h3 (some ⟨b,ob,none⟩) es.length cap l u hl hh h0 Be ef s9 m.w;have Ah:q5=a5:=by
   cases es with
   | nil=>exact absurd rfl oc
   | cons q r=>rw[<-bj q (by simp),hz q (by simp)]
  subst Ah;by_cases aw:u.toNat-l.toNat=0
  ·have:(es.take u.toNat).drop l.toNat=[]:=by
    apply List.eq_nil_of_length_eq_zero;simp;omega
   rw[this];refine DL hm (u := .slice (if cap=l.toNat then some ⟨b,ob,none⟩ else (some (⟨b,ob,none⟩:Addr)).map (·.add (l.toNat*inf.size))) 0 (cap-l.toNat)) ?_ (.ca (.one (.rd (Rd.eh lt _ _))));simp only[execOp,j8,u5,Sem.run_bind,Option.map_none,m6];rw[aw];rfl
  ·have hlen:((es.take u.toNat).drop l.toNat).length=u.toNat-l.toNat:=by simp;omega
   have l7 : ∀ i,i<u.toNat-l.toNat->((es.take u.toNat).drop l.toNat)[i]? = es[l.toNat+i]? := λ i m4=>by
    rw[List.getElem?_drop,List.getElem?_take,if_pos (by omega)]
   refine DL hm (u := .slice (some ⟨b,ob+l.toNat*q5,none⟩) ((es.take u.toNat).drop l.toNat).length (cap-l.toNat)) ?_ (.ca (.one (.rd (.sl lt _ b (ob+l.toNat*q5) q5 (cap-l.toNat) (λ i j=>uu (l.toNat+i) j) (λ e=>aw (by rw[<-hlen,e];rfl)) hp hR (by rw[hlen];omega) (λ q hq=>bj q (List.mem_of_mem_take (List.mem_of_mem_drop hq))) (λ i q m4 j c hj => ?_) (λ i q m4 j c hj => ?_)))))
   ·simp only[execOp,j8,u5,Sem.run_bind,Option.map_none,m6]
    rw[if_neg (by omega),hlen,o8];simp only[Option.map_some,GI];rfl
   ·have df:i<u.toNat-l.toNat:=by rw[<-hlen];exact (zS m4).1
    rw[l7 i df]at m4;rw[show ob+l.toNat*q5+(i*q5+j)=ob+((l.toNat+i)*q5+j) by rw[Nat.add_mul];omega];exact hc _ q m4 j c hj
   ·have df:i<u.toNat-l.toNat:=by rw[<-hlen];exact (zS m4).1
    rw[l7 i df]at m4;exact hr _ q m4 j c hj
structure Q4 (B:Nat) (S:Nat->Prop) (m:M) (a5:Nat) (ys:List (List AV)) (ad:Option Addr) (news:List Value):Prop where
 len:news.length=ys.length*a5
 cells : ∀ b,ad=some b -> ∀ j v,news[j]? = some v->m.w.cell? (b.add j)=some v
 some_:ys≠[]->ad.isSome=true
 rel : ∀ i cs,ys[i]? = some cs -> ∀ j c,cs[j]? = some c -> ∃ u,news[i*a5+j]? = some u/\CC B S m c u
theorem tM (a5 i j:Nat) (h:j<a5):(i*a5+j)/a5=i/\(i*a5+j)%a5=j:=by
 constructor
 ·rw[Nat.add_comm,Nat.add_mul_div_right _ _ (by omega),Nat.div_eq_of_lt h,Nat.zero_add]
 ·rw[Nat.add_comm,Nat.add_mul_mod_self_right,Nat.mod_eq_of_lt h]
theorem RR (hm:BF B S w0 m) {av:AV} {v:Value} (hc:CV B S m av v) {ys:List (List AV)} (he:DM m.own av=some ys) {a5:Nat} (hz : ∀ e∈ys,e.length=a5) (h0:0<a5) :
  ∃ ad cap news,v = .slice ad ys.length cap/\Q4 B S m a5 ys ad news:=by
 cases av with
 | sl l es =>
  simp only[DM,Option.some.injEq]at he;subst he;cases T7 hc with
  | eh _ ad cap=>exact ⟨ad,cap,[],rfl,by simp,λ b _ j v hv=>by simp at hv,λ h=>absurd rfl h,λ i cs hi=>by simp at hi⟩
  | sl _ _ b ob q5 cap uu oc hp hR s9 bj n6 hr =>
   have Ah:q5=a5:=by
    cases es with
    | nil=>exact absurd rfl oc
    | cons q r=>rw[<-bj q (by simp),hz q (by simp)]
   subst Ah;refine ⟨some ⟨b,ob,none⟩,cap,(List.range (es.length*q5)).map (λ k=>uu (k/q5) (k%q5)),rfl,by simp,λ b' j9 j v hv => ?_,λ_=>rfl,λ i cs hi j c hj => ?_⟩
   ·obtain rfl:(⟨b,ob,none⟩:Addr)=b':=by simpa using j9
    rw[List.getElem?_map]at hv;have bm:j<es.length*q5:=by
     rcases Nat.lt_or_ge j (es.length*q5) with h|h
     ·exact h
     ·rw[List.getElem?_eq_none (by simpa using h)]at hv;cases hv
    rw[List.getElem?_range bm]at hv;simp only[Option.map_some,Option.some.injEq]at hv;subst hv;have hd:j/q5<es.length:=Nat.div_lt_of_lt_mul (by rw[Nat.mul_comm];exact bm);have Dp:j%q5<q5:=Nat.mod_lt _ h0;have w5:(es[j/q5]).length=q5:=bj _ (List.getElem_mem hd);have:=n6 (j/q5) _ (zE hd) (j%q5) _ (zE (by rw[w5];exact Dp))
    rw[GI,<-this];congr 2;have:=Nat.div_add_mod j q5
    rw[Nat.mul_comm]at this;omega
   ·have bm:j<q5:=by rw[<-bj cs (zM hi)];exact (zS hj).1
    have df:i<es.length:=(zS hi).1;have l6:i*q5+j<es.length*q5:=by
     have:(i+1)*q5<=es.length*q5:=Nat.mul_le_mul_right _ df
     rw[Nat.succ_mul]at this;omega
    obtain ⟨e1,e2⟩:=tM q5 i j bm;refine ⟨uu i j,?_,.rd (hr i cs hi j c hj)⟩;rw[List.getElem?_map,List.getElem?_range l6];simp [e1,e2]
 | nil =>
  simp only[DM,Option.some.injEq]at he;subst he;exact ⟨none,0,[],M3 hc,by simp,λ b hb=>(by cases hb),λ h=>absurd rfl h,λ i cs hi=>by simp at hi⟩
 | row s t z off len =>
  obtain ⟨ad,cap,hv,ht,aw,fq,ha,hb⟩:=OX hc;simp only[DM]at he;cases l7:m.own.get s t with
  | none=>simp [l7]at he
  | some b =>
   simp only[l7]at he;split at he
   ·rename_i hle
    obtain ⟨hle,dt⟩:=hle;obtain rfl:=Option.some.inj he;have wv:((b.es.drop off).take len).length=len:=by simp;omega
    obtain ⟨_,al⟩:=hb b l7;by_cases mn:len=0
    ·subst mn
     refine ⟨ad,cap,[],by simpa using hv,by simp,λ b _ j v hv=>by simp at hv,λ h=>absurd (by simp) h,λ i cs hi=>by simp at hi⟩
    ·rcases al with ⟨h1,_⟩|⟨g,arr,e',hg,er,Bb,Qy⟩
     ·exact absurd h1 mn
     ·obtain ⟨bj,y5⟩:=hm.c9 s t b l7
      rw[hg]at y5;obtain ⟨hB,jf,e2,nw,s8⟩:=y5;rw[Bb]at nw;obtain ⟨rfl,rfl⟩:arr=jf/\e'=e2:=by simpa using nw
      have Qg:a5=z:=by
       have l6:off<b.es.length:=by omega
       have h1:b.es[off]∈(b.es.drop off).take len:=by
        have:((b.es.drop off).take len)[0]? = some b.es[off]:=by
         rw[List.getElem?_take,if_pos (by omega),List.getElem?_drop];simp [l6]
        exact zM this
       rw[<-hz _ h1,bj _ (List.getElem_mem l6),dt]
      subst Qg;have o8:off*a5+len*a5<=arr.size:=by
       have:(off+len)*a5<=(off+cap)*a5:=Nat.mul_le_mul_right _ (by omega)
       rw[Nat.add_mul]at this;omega
      refine ⟨ad,cap,(arr.toList.drop (off*a5)).take (len*a5),by rw[wv];exact hv,by rw[wv];simp;omega,λ b' j9 j v iy => ?_,λ_=>by rw[er];rfl,λ i cs hi j c hj => ?_⟩
      ·rw[er]at j9
       obtain rfl:(⟨g,off*a5,none⟩:Addr)=b':=by simpa using j9
       rw[List.getElem?_take]at iy;split at iy
       ·rw[List.getElem?_drop]at iy
        rw[GI,TT Bb];simpa using iy
       ·cases iy
      ·rw[List.getElem?_take]at hi
       split at hi
       ·rename_i df
        rw[List.getElem?_drop]at hi;have bm:j<a5:=by rw[<-dt,<-bj cs (zM hi)];exact (zS hj).1
        obtain ⟨u,hu,y8⟩:=s8 (off+i) cs hi j c hj;refine ⟨u,?_,y8⟩;have l6:i*a5+j<len*a5:=by
         have:(i+1)*a5<=len*a5:=Nat.mul_le_mul_right _ df
         rw[Nat.succ_mul]at this;omega
        rw[List.getElem?_take,if_pos l6,List.getElem?_drop,<-hu,dt];simp only[Array.getElem?_toList];congr 1;rw[Nat.add_mul];omega
       ·cases hi
   ·cases he
 | z8 v' =>
  cases v' with
  | bool b =>
   simp only[DM,Option.some.injEq]at he;subst he;obtain ⟨ad,cap,hv,_⟩:=dF hc;exact ⟨ad,cap,[],hv,by simp,λ b' j9 j v iy=>by simp at iy,λ h=>absurd rfl h,λ i cs hi=>by simp at hi⟩
  | _=>simp [DM]at he
 | _=>simp [DM]at he
theorem Q4.one {a5:Nat} {ys:List (List AV)} {ad:Option Addr} {news:List Value} (h:Q4 B S m a5 ys ad news) (h0:0<a5) (hz : ∀ e∈ys,e.length=a5) : ∀ u∈news,u.oneCell'=true:=by
 intro u hu;obtain ⟨k,hk,rfl⟩:=List.getElem_of_mem hu;rw[h.len]at hk;have hd:k/a5<ys.length:=Nat.div_lt_of_lt_mul (by rw[Nat.mul_comm];exact hk);have Dp:k%a5<a5:=Nat.mod_lt _ h0;have w5:(ys[k/a5]).length=a5:=hz _ (List.getElem_mem hd);obtain ⟨u',bn,hc⟩:=h.rel (k/a5) _ (zE hd) (k%a5) _ (zE (by rw[w5];exact Dp));have fb:k/a5*a5+k%a5=k:=by
  have:=Nat.div_add_mod k a5
  rw[Nat.mul_comm]at this;exact this
 rw[fb]at bn;obtain rfl:news[k]=u':=by
  have:=(zS bn).2
  exact this
 exact hc.one
theorem Q4.src {a5:Nat} {ys:List (List AV)} {ad:Option Addr} {news:List Value} (h:Q4 B S m a5 ys ad news) (h0:0<a5) (hz : ∀ e∈ys,e.length=a5) {t e:TypeId} (hu:P.underlying t=some (.slice e)) (cap:Nat):Src P a5 t (.slice ad ys.length cap) ys.length news m.w:=by
 cases ad with
 | none =>
  have ma:ys=[]:=by
   cases ys with
   | nil=>rfl
   | cons y r=>exact absurd (h.some_ (by simp)) (by simp)
  subst ma;have hn:news=[]:=List.eq_nil_of_length_eq_zero (by simpa using h.len);subst hn;exact Src.ofNil m.w hu cap
 | some b=>exact Src.ofSlice m.w hu b ys.length cap news h.len (h.cells b rfl) (h.one h0 hz)
theorem jV (arr:Array Value) (off:Nat) (news:List Value) (h:off+news.length<=arr.size) (p:Nat):(arr.toList.take off++news++arr.toList.drop (off+news.length)).toArray[p]? = if p<off then arr[p]? else if p<off+news.length then news[p-off]? else arr[p]? := by
 simp only[List.getElem?_toArray];rw[VR _ _ _ (by simpa using h)];simp only[Array.getElem?_toList]
theorem Lo (t tx e ex:TypeId) (i:TypeInfo) (ht:P.underlying t=some (.slice e)) (hx:P.underlying tx=some (.slice ex)) (hi:P.info? e=some i) (g off jx me:Nat) (x:Value) (n:Nat) (news:List Value) (w:World) (hs:Src P i.size tx x n news w) (au:jx+n<=me) (arr:Array Value) (e':TypeId)
  (hh:w.heap[g]? = some (.cells arr e' (0,0))) (o8:off+jx*i.size+news.length<=arr.size) (ty:TypeId) :
  (Builtin.append_ #[t,tx] ty #[.slice (some ⟨g,off,none⟩) jx me,x]).run P w = .ok (.slice (some ⟨g,off,none⟩) (jx+n) me) (w.setRow g (arr.toList.take (off+jx*i.size)++news++arr.toList.drop (off+jx*i.size+news.length)).toArray):=by
 have k6:=run_storeCells_at (P:=P) g (off+jx*i.size) e' news 0 arr w hh (by omega) hs.one;simp only[Nat.add_zero]at k6;simp [Builtin.append_,run_underlying ht,run_underlying hx,sizeOf,typeInfo,hi,hs.len,au,hs.cells,GI,k6]
theorem kY (t tx e ex:TypeId) (i:TypeInfo) (ht:P.underlying t=some (.slice e)) (hx:P.underlying tx=some (.slice ex)) (hi:P.info? e=some i) (ad:Option Addr) (me:Nat) (x:Value) (w:World) (hs:Src P i.size tx x 0 [] w) (ty:TypeId) :
  (Builtin.append_ #[t,tx] ty #[.slice ad 0 me,x]).run P w = .ok (.slice ad 0 me) w:=by
 have hc:=hs.cells;cases ad<;>simp [Builtin.append_,run_underlying ht,run_underlying hx,sizeOf,typeInfo,hi,hs.len,hc,storeCells]
theorem PK {x y:Operand} {t tx:TypeId} (j8:o.op = .call ⟨.builtin .append,#[x,y],#[t,tx]⟩) {u:Value} {w w':World} (h:(Builtin.append_ #[t,tx] o.type #[a.eval x,a.eval y]).run P w = .ok u w'):(execOp a.eval o).run P w = .ok (.value u) w':=by
 simp [execOp,j8,resolve,invoke,builtin,h]
theorem lD {x y:Operand} {t:TypeId} (j8:o.op = .call ⟨.builtin .copy,#[x,y],#[t,t]⟩) {u:Value} {w w':World} (h:(Builtin.copy_ #[t,t] o.type #[a.eval x,a.eval y]).run P w = .ok u w'):(execOp a.eval o).run P w = .ok (.value u) w':=by
 simp [execOp,j8,resolve,invoke,builtin,h]
theorem yQ (ak news:List Value) (z:Array Value) (k p:Nat) (h:p<ak.length+news.length):((ak++news).toArray++Builtin.zeroCells z k)[p]? = (ak++news)[p]? := by
 rw[Array.getElem?_append_left (by simpa using h)];simp
theorem Li {a5 len:Nat} {xs ys:List (List AV)} {ak news:List Value} (Et:xs.length=len) (Dw:ak.length=len*a5) (Uh : ∀ e∈xs,e.length=a5)
  (hx : ∀ i cs,xs[i]? = some cs -> ∀ j c,cs[j]? = some c -> ∃ u,ak[i*a5+j]? = some u/\CC B S m c u)
  (hy : ∀ i cs,ys[i]? = some cs -> ∀ j c,cs[j]? = some c -> ∃ u,news[i*a5+j]? = some u/\CC B S m c u) :
  ∀ i cs,(xs++ys)[i]? = some cs -> ∀ j c,cs[j]? = some c -> ∃ u,(ak++news)[i*a5+j]? = some u/\CC B S m c u:=by
 intro i cs hi j c hj;by_cases df:i<len
 ·rw[List.getElem?_append_left (by omega)]at hi
  obtain ⟨u,hu,hc⟩:=hx i cs hi j c hj;exact ⟨u,by rw[List.getElem?_append_left (by have:=(zS hu).1;omega)];exact hu,hc⟩
 ·rw[List.getElem?_append_right (by omega),Et]at hi
  obtain ⟨u,hu,hc⟩:=hy (i-len) cs hi j c hj;refine ⟨u,?_,hc⟩;have e1:i*a5=len*a5+(i-len)*a5:=by rw[<-Nat.add_mul];congr 1;omega
  rw[List.getElem?_append_right (by omega),<-hu];congr 1;omega
theorem jQ {s z n cap:Nat} {es:List (List AV)} {w':World} {g t:Nat} {arr:Array Value} {e:TypeId} (hz:0<z) (hn:n<=cap) (hg:w'.heap[g]? = some (.cells arr e (0,0))) (hc:cap*z<=arr.size) :
  CV B S ⟨g8 m s (some g),m.own.put s (((m.own s).m7 t none).new ⟨z,es⟩),w'⟩ (.row s (m.own.g7 s) z 0 n) (.slice (some ⟨g,0,none⟩) n cap):=by
 refine .ca (.one (.row s (m.own.g7 s) z 0 n _ cap ?_ hz hn (λ_=>rfl) λ b' j9=>⟨?_,.inr ⟨g,arr,e,?_,by simp,hg,by simpa using hc⟩⟩))
 ·show _<AG.g7 _ s
  rw[T3];simp
 ·change AG.get _ s _=some b' at j9
  rw[O6,if_pos ⟨rfl,rfl⟩]at j9;obtain rfl:(⟨z,es⟩:DE)=b':=by simpa using j9
  rfl
 ·simp [g8]
theorem rI (hm:BF B S w0 m) (ob:Obj):Below B w0 (m.w.drew.alloc ob):=hm.below.drew.alloc (by simpa using hm.size) ob
theorem dU (hm:BF B S w0 m) (hs:B6 B S m ρ a.eval) {s a5 bytes:Nat} {x' y':AM} (h:A2 P num o.op (.app s a5 bytes x' y')=true) {ys:List (List AV)} (hy:DM m.own (ρ y')=some ys) (hz : ∀ e∈ys,e.length=a5) {s' t len:Nat} {b:DE} (hx:ρ x' = .row s' t a5 0 len) (l7:m.own.get s' t=some b)
  (dt:b.a5=a5) (hle:len<=b.es.length) (au:(len+ys.length)*bytes<=D6) (tk:len+ys.length<=9223372036854775807) :
  B9 B S w0 P o a m (.y9 (.row s' (m.own.g7 s') a5 0 (len+ys.length)) (m.own.put s' (((m.own s').m7 t none).new ⟨a5,b.es.take len++ys⟩))):=by
 obtain ⟨x,y,ty,e,i,z,tx,ex,j8,h1,h2,hu,hi,o8,gd,aw,bj,k8,pk⟩:=iO h;have h0:0<a5:=Nat.pos_of_ne_zero k8;obtain ⟨ad,cap,u5,ht,_,fq,ha,hb⟩:=OX (hx ▸ hs x x' h1);obtain ⟨fy,w4,news,jr,w5⟩:=RR hm (hs y y' h2) hy hz h0;have ib:Src P i.size tx (.slice fy ys.length w4) ys.length news m.w:=by rw[o8];exact w5.src h0 hz pk w4
 obtain ⟨rl,y5⟩:=hm.c9 s' t b l7;obtain ⟨_,al⟩:=hb b l7;have ix:(b.es.take len).length=len:=by simp;omega
 have ta : ∀ q∈b.es.take len++ys,q.length=a5:=λ q hq=>by
  rcases List.mem_append.1 hq with hq|hq
  ·rw[<-dt];exact rl q (List.mem_of_mem_take hq)
  ·exact hz q hq
 intro K Q hK;by_cases ns:len+ys.length<=cap
 ·rcases al with ⟨mn,cr⟩|⟨g,arr,e',hg,er,hh,ym⟩
  ·have ma:ys=[]:=List.eq_nil_of_length_eq_zero (by omega)
   subst ma;subst mn cr;have rz:news=[]:=List.eq_nil_of_length_eq_zero (by simpa using w5.len);subst rz;have m6:=kY ty tx e ex i hu pk hi ad 0 (.slice fy 0 w4) m.w (by simpa using ib) o.type;obtain ⟨k1,k2⟩:=Y2 hm s' t b ⟨a5,b.es.take 0++[]⟩ l7 none m.w hm.below (Nat.le_refl _) (λ_ _ _=>rfl) (by simp) (by simp) (by simp);refine IL (PK j8 (by rw[u5,jr];simpa using m6)) (hK _ ⟨g8 m s' none,m.own.put s' (((m.own s').m7 t none).new ⟨a5,b.es.take 0++[]⟩),m.w⟩ rfl k1 k2 (.ca (.one (.row s' (m.own.g7 s') a5 0 0 ad 0 ?_ h0 (Nat.le_refl _) (λ h=>by omega) λ b' j9=>⟨?_,.inl ⟨rfl,rfl⟩⟩))))
   ·show _<AG.g7 _ s'
    rw[T3];simp
   ·change AG.get _ s' _=some b' at j9
    rw[O6,if_pos ⟨rfl,rfl⟩]at j9;obtain rfl:(⟨a5,b.es.take 0++[]⟩:DE)=b':=by simpa using j9
    rfl
  ·have tz:ad=some ⟨g,0,none⟩:=by simpa using er
   rw[hg]at y5;obtain ⟨hB,jf,e2,nw,s8⟩:=y5;rw[hh]at nw;obtain ⟨rfl,rfl⟩:arr=jf/\e'=e2:=by simpa using nw
   have pf:news.length=ys.length*a5:=w5.len;have hbound:len*a5+news.length<=arr.size:=by
    have:(len+ys.length)*a5<=(0+cap)*a5:=Nat.mul_le_mul_right _ (by omega)
    rw[Nat.add_mul]at this;omega
   have m6:=Lo ty tx e ex i hu pk hi g 0 len cap (.slice fy ys.length w4) ys.length news m.w ib ns arr e' hh (by rw[o8];omega) o.type;rw[o8,Nat.zero_add]at m6;generalize cq:(arr.toList.take (len*a5)++news++arr.toList.drop (len*a5+news.length)).toArray=n8 at m6;have ae : ∀ p,n8[p]? = if p<len*a5 then arr[p]? else if p<len*a5+news.length then news[p-len*a5]? else arr[p]? := λ p=>by rw[<-cq];exact jV arr (len*a5) news hbound p
   have eb:n8.size=arr.size:=by rw[<-cq];simp;omega
   obtain ⟨k1,k2⟩:=Y2 hm s' t b ⟨a5,b.es.take len++ys⟩ l7 (some g) (m.w.setRow g n8) (WJ hm hB n8) (by simp) (λ k _ oc=>setRow_other _ _ _ _ (λ e=>oc (e ▸ hg))) ta (by simp) (λ g' fj=>by
    obtain rfl:g=g':=by simpa using fj
    refine ⟨hB,.inr hg,n8,e',setRow_heap _ _ _ _ _ _ hh,λ i' cs m4 j c hj => ?_⟩;show ∃ u,n8[i'*a5+j]? = some u/\_;by_cases df:i'<len
    ·rw[List.getElem?_append_left (by omega),List.getElem?_take,if_pos df]at m4
     have bm:j<a5:=by rw[<-dt,<-rl cs (zM m4)];exact (zS hj).1
     obtain ⟨u,bn,y8⟩:=s8 i' cs m4 j c hj;refine ⟨u,?_,y8⟩;have:(i'+1)*a5<=len*a5:=Nat.mul_le_mul_right _ df
     rw[Nat.succ_mul]at this;rw[ae,if_pos (by omega),<-bn,dt]
    ·rw[List.getElem?_append_right (by omega),ix]at m4
     obtain ⟨u,bn,y8⟩:=w5.rel (i'-len) cs m4 j c hj;refine ⟨u,?_,y8⟩;have ef:=(zS bn).1;have e1:i'*a5=len*a5+(i'-len)*a5:=by rw[<-Nat.add_mul];congr 1;omega
     rw[ae,if_neg (by omega),if_pos (by omega),<-bn];congr 1;omega)
   exact IL (PK j8 (by rw[u5,jr,tz];exact m6)) (hK _ ⟨g8 m s' (some g),m.own.put s' (((m.own s').m7 t none).new ⟨a5,b.es.take len++ys⟩),m.w.setRow g n8⟩ rfl k1 k2 (jQ h0 ns (setRow_heap _ _ _ _ _ _ hh) (by rw[eb];simpa using ym)))
 ·have rq:cap<len+ys.length:=by omega
  obtain ⟨ak,Dw,hold,Ec⟩ : ∃ ak:List Value,ak.length=len*a5/\(Builtin.firstCells i.size len (.slice ad len cap)).run P m.w.drew = .ok ak.toArray m.w.drew/\(∀ i' cs,(b.es.take len)[i']? = some cs -> ∀ j c,cs[j]? = some c -> ∃ u,ak[i'*a5+j]? = some u/\CC B S m c u):=by
   rcases al with ⟨mn,cr⟩|⟨g,arr,e',hg,er,hh,ym⟩
   ·subst mn
    refine ⟨[],by simp,?_,λ i' cs m4=>by simp at m4⟩;cases ad with
    | none=>exact run_firstCells_none m.w.drew i.size 0 0 cap
    | some vg=>exact run_firstCells_some m.w.drew i.size 0 vg 0 cap [] (by simp) (λ j v hv=>by simp at hv)
   ·have tz:ad=some ⟨g,0,none⟩:=by simpa using er
    rw[hg]at y5;obtain ⟨hB,jf,e2,nw,s8⟩:=y5;rw[hh]at nw;obtain ⟨rfl,rfl⟩:arr=jf/\e'=e2:=by simpa using nw
    have n6:len*a5<=arr.size:=by
     have:len*a5<=(0+cap)*a5:=Nat.mul_le_mul_right _ (by omega)
     omega
    refine ⟨arr.toList.take (len*a5),by simp;omega,?_,λ i' cs m4 j c hj => ?_⟩
    ·rw[tz]
     refine run_firstCells_some m.w.drew i.size len ⟨g,0,none⟩ len cap _ (by rw[o8];simp;omega) (λ j v hv => ?_);rw[List.getElem?_take]at hv;split at hv
     ·rw[GI,TT (w:=m.w.drew) (show m.w.heap[g]? = _ from hh)]
      simpa using hv
     ·cases hv
    ·rw[List.getElem?_take]at m4
     split at m4
     ·rename_i df
      have bm:j<a5:=by rw[<-dt,<-rl cs (zM m4)];exact (zS hj).1
      obtain ⟨u,bn,y8⟩:=s8 i' cs m4 j c hj;refine ⟨u,?_,y8⟩;have:(i'+1)*a5<=len*a5:=Nat.mul_le_mul_right _ df
      rw[Nat.succ_mul]at this;rw[List.getElem?_take,if_pos (by omega),<-bn,dt];simp
     ·cases m4
  have m6:=run_append_grow_src (P:=P) m.w ty tx o.type e i z hu hi aw ad len cap ak hold (.slice fy ys.length w4) ys.length news ib rq (by omega) (growslice_fits rq (by rw[gd];exact au));have pf:news.length=ys.length*a5:=w5.len;have s9:len+ys.length<=grownCap m.w (len+ys.length) cap e:=grownCap_ge _ _ _ _;generalize vu:grownCap m.w (len+ys.length) cap e=gc at m6 s9;have dp:=rI hm (.cells ((ak++news).toArray++Builtin.zeroCells z.cells (gc-(len+ys.length))) e);have fu:(m.w.drew.alloc (.cells ((ak++news).toArray++Builtin.zeroCells z.cells (gc-(len+ys.length))) e)).heap[m.w.heap.size]? = some (.cells ((ak++news).toArray++Builtin.zeroCells z.cells (gc-(len+ys.length))) e (0,0)):=heap_alloc_new m.w.drew _;obtain ⟨k1,k2⟩:=Y2 hm s' t b ⟨a5,b.es.take len++ys⟩ l7 (some m.w.heap.size) _ dp (by simp) (λ k hk _=>Below.heap_alloc m.w.drew _ k hk) ta (by simp) (λ g' fj=>by
   obtain rfl:m.w.heap.size=g':=by simpa using fj
   refine ⟨hm.size,.inl (Nat.le_refl _),_,e,fu,λ i' cs m4 j c hj => ?_⟩;obtain ⟨u,bn,y8⟩:=Li ix Dw (λ q hq=>by rw[<-dt];exact rl q (List.mem_of_mem_take hq)) Ec w5.rel i' cs m4 j c hj;refine ⟨u,?_,y8⟩;rw[yQ _ _ _ _ _ (by have:=(zS bn).1;simpa using this)];exact bn)
  refine IL (PK j8 (by rw[u5,jr];exact m6)) (hK _ ⟨g8 m s' (some m.w.heap.size),m.own.put s' (((m.own s').m7 t none).new ⟨a5,b.es.take len++ys⟩),_⟩ rfl k1 k2 (jQ h0 s9 fu ?_));have kp:(Builtin.zeroCells z.cells (gc-(len+ys.length))).size=(gc-(len+ys.length))*a5:=by simp [Builtin.zeroCells,bj]
  rw[Array.size_append,kp];simp only[List.size_toArray,List.length_append,Dw,pf];rw[<-Nat.add_mul,<-Nat.add_mul];exact Nat.mul_le_mul_right _ (by omega)
theorem tU (hm:BF B S w0 m) (hs:B6 B S m ρ a.eval) {s a5 bytes:Nat} {x' y':AM} (h:A2 P num o.op (.app s a5 bytes x' y')=true) {ys:List (List AV)} (hy:DM m.own (ρ y')=some ys) (hz : ∀ e∈ys,e.length=a5) (hx:ρ x' = .nil)
  (au:ys.length*bytes<=D6) (tk:ys.length<=9223372036854775807) :
  B9 B S w0 P o a m (.y9 (.row s (m.own.g7 s) a5 0 ys.length) (m.own.put s ((m.own s).new ⟨a5,ys⟩))):=by
 obtain ⟨x,y,ty,e,i,z,tx,ex,j8,h1,h2,hu,hi,o8,gd,aw,bj,k8,pk⟩:=iO h;have h0:0<a5:=Nat.pos_of_ne_zero k8;have u5:=M3 (hx ▸ hs x x' h1);obtain ⟨fy,w4,news,jr,w5⟩:=RR hm (hs y y' h2) hy hz h0;have ib:Src P i.size tx (.slice fy ys.length w4) ys.length news m.w:=by rw[o8];exact w5.src h0 hz pk w4
 intro K Q hK;by_cases ma:ys=[]
 ·subst ma
  have rz:news=[]:=List.eq_nil_of_length_eq_zero (by simpa using w5.len);subst rz;have m6:=kY ty tx e ex i hu pk hi none 0 (.slice fy 0 w4) m.w (by simpa using ib) o.type;obtain ⟨k1,k2⟩:=mZ hm s a5;refine IL (PK j8 (by rw[u5,jr];simpa using m6)) (hK _ ⟨g8 m s none,m.own.put s ((m.own s).new ⟨a5,[]⟩),m.w⟩ rfl k1 k2 (.ca (.one (.row s (m.own.g7 s) a5 0 0 none 0 ?_ h0 (Nat.le_refl _) (λ h=>by omega) λ b' j9=>⟨?_,.inl ⟨rfl,rfl⟩⟩))))
  ·show _<AG.g7 _ s
   rw[I9];simp
  ·change AG.get _ s _=some b' at j9
   rw[FE,if_pos ⟨rfl,rfl⟩]at j9;obtain rfl:(⟨a5,[]⟩:DE)=b':=by simpa using j9
   rfl
 ·have zl:0<ys.length:=List.length_pos_iff.2 ma
  have m6:=run_append_grow_src (P:=P) m.w ty tx o.type e i z hu hi aw none 0 0 [] (run_firstCells_none m.w.drew i.size 0 0 0) (.slice fy ys.length w4) ys.length news ib (by omega) (by omega) (growslice_fits (by omega) (by rw[gd,Nat.zero_add];exact au));simp only[Nat.zero_add,List.nil_append]at m6;have pf:news.length=ys.length*a5:=w5.len;have s9:ys.length<=grownCap m.w ys.length 0 e:=grownCap_ge _ _ _ _;generalize vu:grownCap m.w ys.length 0 e=gc at m6 s9;have hd:Below m.w.heap.size m.w m.w.drew:=(Below.refl _ _).drew;obtain ⟨dw,pc⟩:=grow hm hd;obtain ⟨k1,k2⟩:=RE dw s ⟨a5,ys⟩ (news.toArray++Builtin.zeroCells z.cells (gc-ys.length)) e hz (λ i' cs m4 j c hj=>by
   obtain ⟨u,bn,y8⟩:=w5.rel i' cs m4 j c hj;refine ⟨u,?_,pc.cc y8⟩;have ef:=(zS bn).1;show (news.toArray++Builtin.zeroCells z.cells (gc-ys.length))[i'*a5+j]? = some u;rw[Array.getElem?_append_left (by simpa using ef)];simpa using bn)
  have kp:(Builtin.zeroCells z.cells (gc-ys.length)).size=(gc-ys.length)*a5:=by simp [Builtin.zeroCells,bj]
  refine IL (PK j8 (by rw[u5,jr];exact m6)) (hK _ ⟨g8 ⟨m.ν,m.own,m.w.drew⟩ s (some m.w.drew.heap.size),m.own.put s ((m.own s).new ⟨a5,ys⟩),_⟩ rfl k1 (pc.trans k2) (U1 (m:=⟨m.ν,m.own,m.w.drew⟩) h0 s9 (heap_alloc_new m.w.drew _) ?_));rw[Array.size_append,kp];simp only[List.size_toArray,pf];rw[<-Nat.add_mul];exact Nat.mul_le_mul_right _ (by omega)
theorem tT (hm:BF B S w0 m) (hs:B6 B S m ρ a.eval) {s a5 bytes:Nat} {x' y':AM} (h:A2 P num o.op (.jd s a5 bytes x' y')=true) {ys:List (List AV)} (hy:DM m.own (ρ y')=some ys) (hz : ∀ e∈ys,e.length=a5) (hx:ρ x' = .nil)
  (zl:0<ys.length) (au:ys.length*bytes<=D6) (tk:ys.length<=9223372036854775807) :
  B9 B S w0 P o a m (.new s ⟨a5,ys⟩ (λ t => .row s t a5 0 ys.length)):=by
 obtain ⟨x,y,ty,e,i,z,tx,ex,j8,h1,h2,hu,hi,o8,gd,aw,bj,k8,pk⟩:=Jz h;have h0:0<a5:=Nat.pos_of_ne_zero k8;have u5:=M3 (hx ▸ hs x x' h1);obtain ⟨fy,w4,news,jr,w5⟩:=RR hm (hs y y' h2) hy hz h0;have ib:Src P i.size tx (.slice fy ys.length w4) ys.length news m.w:=by rw[o8];exact w5.src h0 hz pk w4
 intro K Q hK;have m6:=run_append_grow_src (P:=P) m.w ty tx o.type e i z hu hi aw none 0 0 [] (run_firstCells_none m.w.drew i.size 0 0 0) (.slice fy ys.length w4) ys.length news ib (by omega) (by omega) (growslice_fits (by omega) (by rw[gd,Nat.zero_add];exact au));simp only[Nat.zero_add,List.nil_append]at m6;have pf:news.length=ys.length*a5:=w5.len;have s9:ys.length<=grownCap m.w ys.length 0 e:=grownCap_ge _ _ _ _;generalize vu:grownCap m.w ys.length 0 e=gc at m6 s9;have hd:Below m.w.heap.size m.w m.w.drew:=(Below.refl _ _).drew;obtain ⟨dw,pc⟩:=grow hm hd;obtain ⟨k1,k2⟩:=RE dw s ⟨a5,ys⟩ (news.toArray++Builtin.zeroCells z.cells (gc-ys.length)) e hz (λ i' cs m4 j c hj=>by
  obtain ⟨u,bn,y8⟩:=w5.rel i' cs m4 j c hj;refine ⟨u,?_,pc.cc y8⟩;have ef:=(zS bn).1;show (news.toArray++Builtin.zeroCells z.cells (gc-ys.length))[i'*a5+j]? = some u;rw[Array.getElem?_append_left (by simpa using ef)];simpa using bn)
 have kp:(Builtin.zeroCells z.cells (gc-ys.length)).size=(gc-ys.length)*a5:=by simp [Builtin.zeroCells,bj]
 refine IL (PK j8 (by rw[u5,jr];exact m6)) (hK _ ⟨g8 ⟨m.ν,m.own,m.w.drew⟩ s (some m.w.drew.heap.size),m.own.put s ((m.own s).new ⟨a5,ys⟩),_⟩ rfl k1 (pc.trans k2) (U1 (m:=⟨m.ν,m.own,m.w.drew⟩) h0 s9 (heap_alloc_new m.w.drew _) ?_));rw[Array.size_append,kp];simp only[List.size_toArray,pf];rw[<-Nat.add_mul];exact Nat.mul_le_mul_right _ (by omega)
theorem Lp (w:World) (t tx ty e:TypeId) (i:TypeInfo) (z:Value) (ht:P.underlying t=some (.slice e)) {k:IntKind} (hk:P.underlying tx=some (.int k)) (hi:P.info? e=some i) (hz:i.zero=some z) (k':IntKind) (n:Nat)
  (hn:0<n) (tk:(n:Int)<=9223372036854775807) (Ft:n*i.bytes<=D6) (k8:i.size≠0) :
  (Builtin.append_ #[t,tx] ty #[.slice none 0 0,.int k' n]).run P w =
   .ok (.slice (some ⟨w.heap.size,0,none⟩) n (grownCap w n 0 e))
    (w.drew.alloc (.cells (Builtin.zeroCells z.cells n++Builtin.zeroCells z.cells (grownCap w n 0 e-n)) e)):=by
 have ns:=growslice_fits (old:=0) (need:=n) (bytes:=i.bytes) hn Ft;have h1 : ¬ (n:Int)<0:=by omega
 have h2 : ¬ n=0:=by omega
 have h3 : ¬ (9223372036854775807<(n:Int)):=by omega
 have h5 : ¬ (281474976710656<Builtin.nextslicecap n 0*i.bytes):=by omega
 have h6 : ¬ ((281474976710656:Int)<(n:Int)*(i.bytes:Int)):=by
  have Cf:n*i.bytes<=140737488355328:=Ft;have h7:=Int.ofNat_le.2 Cf;rw[Int.natCast_mul]at h7;omega
 have hA : ∀ w':World,(asIntOf (.int k' n)).run P w' = .ok (k',(n:Int)) w':=λ w'=>rfl
 have e1:IntKind.i64.wrap (n:Int)=n:=by rw[IntKind.wrap_i64];omega
 generalize hw:IntKind.i64.wrap (n:Int)=q at e1;subst e1;simp [Builtin.append_,run_underlying ht,run_underlying hk,sizeOf,typeInfo,zeroValue,hi,hz,asInt,hA,hw,h1,h2,h3,h5,h6,k8,Question.forced,Builtin.firstCells,newRow,grownCap];intro h;rcases Nat.mul_eq_zero.1 h with h|h
 ·exact absurd h h2
 ·exact absurd h k8
theorem tV (hm:BF B S w0 m) (hs:B6 B S m ρ a.eval) {s a5 bytes:Nat} {x' y':AM} (h:A2 P num o.op (.je s a5 bytes x' y')=true) (hx:ρ x' = .nil) {k':IntKind} {n:Int} (hy:ρ y' = .int k' n)
  (hn:0<n) (au:n*bytes<=D6) (tk:n<=9223372036854775807) :
  B9 B S w0 P o a m (.new s ⟨a5,[]⟩ (λ t => .row s t a5 0 n.toNat)):=by
 obtain ⟨x,y,ty,e,i,z,tx,k,j8,h1,h2,hu,hi,o8,gd,aw,bj,k8,pk⟩:=Kb h;have h0:0<a5:=Nat.pos_of_ne_zero k8;have u5:=M3 (hx ▸ hs x x' h1);have Qf:=F5 (hy ▸ hs y y' h2);obtain ⟨q,rfl⟩ : ∃ q:Nat,n=q:=⟨n.toNat,by omega⟩;simp only[Int.toNat_natCast];intro K Q hK;have m6:=Lp (P:=P) m.w ty tx o.type e i z hu pk hi aw k' q (by omega) tk (by
  rw[gd];rw[<-Int.natCast_mul]at au;exact Int.ofNat_le.1 au) (by rw[o8];exact k8)
 have s9:q<=grownCap m.w q 0 e:=grownCap_ge _ _ _ _;generalize vu:grownCap m.w q 0 e=gc at m6 s9;have hd:Below m.w.heap.size m.w m.w.drew:=(Below.refl _ _).drew;obtain ⟨dw,pc⟩:=grow hm hd;obtain ⟨k1,k2⟩:=RE dw s ⟨a5,[]⟩ (Builtin.zeroCells z.cells q++Builtin.zeroCells z.cells (gc-q)) e (by simp) (λ i' cs m4 j c hj=>by simp at m4);have kp : ∀ n,(Builtin.zeroCells z.cells n).size=n*a5:=λ n=>by simp [Builtin.zeroCells,bj]
 refine IL (PK j8 (by rw[u5,Qf];exact m6)) (hK _ ⟨g8 ⟨m.ν,m.own,m.w.drew⟩ s (some m.w.drew.heap.size),m.own.put s ((m.own s).new ⟨a5,[]⟩),_⟩ rfl k1 (pc.trans k2) (U1 (m:=⟨m.ν,m.own,m.w.drew⟩) h0 s9 (heap_alloc_new m.w.drew _) ?_));rw[Array.size_append,kp,kp,<-Nat.add_mul];exact Nat.mul_le_mul_right _ (by omega)
end
end Go.c4

namespace Go.c4
open Go.RowKit
section
variable {B:Nat} {S:Nat->Prop} {w0:World} {m:M}
variable {P:Program} {num:Nat->Nat} {o:Oper} {a:Act} {ρ:AM->AV}
theorem Oc (ow:AG) (s t:Nat) (b:DE) (h:ow.get s t=some b):ow.put s ((ow s).m7 t (some b))=ow:=by
 funext s'
 unfold AG.put BU.m7;by_cases hs:s'=s
 ·subst hs
  rw[if_pos rfl];unfold AG.get at h;cases hx:ow s' with
  | mk c f =>
   rw[hx]at h;simp only at h;congr;funext t'
   by_cases ht:t'=t
   ·subst ht;simp [h]
   ·simp [ht]
 ·simp [hs]
theorem kZ (ty e:TypeId) (i:TypeInfo) (hu:P.underlying ty=some (.slice e)) (hi:P.info? e=some i) (ad:Option Addr) (ti Ce:Nat) (fy:Option Addr) (yl yc:Nat) (cs:List Value) (w w':World) (rt:TypeId)
  (hf:(Builtin.firstCells i.size (Nat.min yl ti) (.slice fy yl yc)).run P w = .ok cs.toArray w) (k6 : ∀ b,ad=some b->(storeCells b cs).run P w = .ok () w') (hn:ad=none->w'=w) :
  (Builtin.copy_ #[ty,ty] rt #[.slice ad ti Ce,.slice fy yl yc]).run P w = .ok (goInt (Nat.min yl ti)) w':=by
 cases ad with
 | none=>rw[hn rfl];simp [Builtin.copy_,run_underlying hu,sizeOf,typeInfo,hi,Builtin.lenOf,hf]
 | some b=>simp [Builtin.copy_,run_underlying hu,sizeOf,typeInfo,hi,Builtin.lenOf,hf,k6 b rfl]
theorem uI (hm:BF B S w0 m) (hs:B6 B S m ρ a.eval) {a5:Nat} {x' y':AM} (h:A2 P num o.op (.jg a5 x' y')=true) {ys:List (List AV)} (hy:DM m.own (ρ y')=some ys) (hz : ∀ e∈ys,e.length=a5) {s t off len:Nat} {b:DE} (hx:ρ x' = .row s t a5 off len) (l7:m.own.get s t=some b)
  (dt:b.a5=a5) (hle:off+len<=b.es.length) :
  B9 B S w0 P o a m (.y9 (.int .i64 (min ys.length len:Nat)) (m.own.put s ((m.own s).m7 t (some ⟨a5,b.es.take off++ys.take len++b.es.drop (off+min ys.length len)⟩)))):=by
 obtain ⟨x,y,ty,e,i,j8,h1,h2,hu,hi,o8,k8⟩:=Kn h;have h0:0<a5:=Nat.pos_of_ne_zero k8;obtain ⟨ad,cap,u5,ht,_,fq,ha,hb⟩:=OX (hx ▸ hs x x' h1);obtain ⟨fy,w4,news,jr,w5⟩:=RR hm (hs y y' h2) hy hz h0;obtain ⟨rl,y5⟩:=hm.c9 s t b l7;obtain ⟨_,al⟩:=hb b l7;have pf:news.length=ys.length*a5:=w5.len;have Qs:min ys.length len*a5<=news.length:=by rw[pf];exact Nat.mul_le_mul_right _ (Nat.min_le_left _ _)
 have np:(news.take (min ys.length len*a5)).length=min ys.length len*a5:=by simp;omega
 have hf:(Builtin.firstCells i.size (Nat.min ys.length len) (.slice fy ys.length w4)).run P m.w = .ok (news.take (min ys.length len*a5)).toArray m.w:=by
  cases Af:fy with
  | none =>
   have ma:ys=[]:=by
    cases ys with
    | nil=>rfl
    | cons q r=>exact absurd (w5.some_ (by simp)) (by simp [Af])
   subst ma;simp only[List.length_nil,Nat.zero_min,Nat.zero_mul,List.take_zero];have:=run_firstCells_none (P:=P) m.w i.size 0 0 w4
   simpa using this
  | some yb =>
   refine run_firstCells_some m.w i.size _ yb ys.length w4 _ (by rw[np,o8]) (λ j v hv => ?_);rw[List.getElem?_take]at hv;split at hv
   ·exact w5.cells yb Af j v hv
   ·cases hv
 intro K Q hK;by_cases hk:min ys.length len=0
 ·have cr:news.take (min ys.length len*a5)=[]:=by rw[hk];simp
  have j6:m.own.put s ((m.own s).m7 t (some ⟨a5,b.es.take off++ys.take len++b.es.drop (off+min ys.length len)⟩))=m.own:=by
   have ot:ys.take len=[]:=by
    apply List.eq_nil_of_length_eq_zero;rw[List.length_take];omega
   rw[hk,ot];have:b=⟨a5,b.es.take off++[]++b.es.drop (off+0)⟩:=by
    cases b with
    | mk z es=>simp at dt;subst dt;simp
   rw[<-this];exact Oc _ _ _ _ l7
  have m6:=kZ ty e i hu hi ad len cap fy ys.length w4 _ m.w m.w o.type hf (λ b' _=>by rw[cr];rfl) (λ_=>rfl);refine IL (lD j8 (by rw[u5,jr];exact m6)) (hK _ m j6.symm hm (C4.refl m) (JP _ _))
 ·rcases al with ⟨mn,cr⟩|⟨g,arr,e',hg,er,hh,ym⟩
  ·omega
  ·rw[hg]at y5
   obtain ⟨hB,jf,e2,nw,s8⟩:=y5;rw[hh]at nw;obtain ⟨rfl,rfl⟩:arr=jf/\e'=e2:=by simpa using nw
   have hbound:off*a5+(news.take (min ys.length len*a5)).length<=arr.size:=by
    rw[np,<-Nat.add_mul];exact Nat.le_trans (Nat.mul_le_mul_right _ (by omega)) ym
   have cj : ∀ u∈news.take (min ys.length len*a5),u.oneCell'=true:=λ u bn=>w5.one h0 hz u (List.mem_of_mem_take bn)
   have k6:=run_storeCells_at (P:=P) g (off*a5) e' (news.take (min ys.length len*a5)) 0 arr m.w hh (by omega) cj;simp only[Nat.add_zero]at k6;generalize cq:(arr.toList.take (off*a5)++news.take (min ys.length len*a5)++arr.toList.drop (off*a5+(news.take (min ys.length len*a5)).length)).toArray=n8 at k6;have ae : ∀ p,n8[p]? = if p<off*a5 then arr[p]? else if p<off*a5+min ys.length len*a5 then (news.take (min ys.length len*a5))[p-off*a5]? else arr[p]? := λ p=>by
    rw[<-cq,jV arr (off*a5) _ hbound p,np]
   have eb:n8.size=arr.size:=by rw[<-cq];simp;omega
   obtain ⟨k1,k2⟩:=mV hm s t b ⟨a5,b.es.take off++ys.take len++b.es.drop (off+min ys.length len)⟩ l7 g hg arr n8 e' hh dt.symm (λ q hq=>by
     rcases List.mem_append.1 hq with hq|hq
     ·rcases List.mem_append.1 hq with hq|hq
      ·rw[<-dt];exact rl q (List.mem_of_mem_take hq)
      ·exact hz q (List.mem_of_mem_take hq)
     ·rw[<-dt];exact rl q (List.mem_of_mem_drop hq)) eb
    (λ i' cs m4 j c hj=>by
     show ∃ u,n8[i'*a5+j]? = some u/\_;have wv:(ys.take len).length=min ys.length len:=by simp;omega
     change (b.es.take off++ys.take len++b.es.drop (off+min ys.length len))[i']? = some cs at m4;have Ey:=wv;rw[<-Ey,VR _ _ _ (by rw[wv];omega),wv]at m4;by_cases wc:i'<off
     ·rw[if_pos wc]at m4
      have bm:j<a5:=by rw[<-dt,<-rl cs (zM m4)];exact (zS hj).1
      obtain ⟨u,bn,y8⟩:=s8 i' cs m4 j c hj;have:(i'+1)*a5<=off*a5:=Nat.mul_le_mul_right _ wc
      rw[Nat.succ_mul]at this;exact ⟨u,by rw[ae,if_pos (by omega),<-bn,dt],y8⟩
     ·rw[if_neg wc]at m4
      have e1:i'*a5=off*a5+(i'-off)*a5:=by rw[<-Nat.add_mul];congr 1;omega
      by_cases gf:i'<off+min ys.length len
      ·rw[if_pos gf,List.getElem?_take,if_pos (by omega)]at m4
       have bm:j<a5:=by rw[<-hz cs (zM m4)];exact (zS hj).1
       obtain ⟨u,bn,y8⟩:=w5.rel (i'-off) cs m4 j c hj;have h3:(i'-off+1)*a5<=min ys.length len*a5:=Nat.mul_le_mul_right _ (by omega);rw[Nat.succ_mul]at h3;refine ⟨u,?_,y8⟩;rw[ae,if_neg (by omega),if_pos (by omega),List.getElem?_take,if_pos (by omega),<-bn];congr 1;omega
      ·rw[if_neg gf]at m4
       obtain ⟨u,bn,y8⟩:=s8 i' cs m4 j c hj;have h3:(off+min ys.length len)*a5<=i'*a5:=Nat.mul_le_mul_right _ (by omega);rw[Nat.add_mul]at h3;exact ⟨u,by rw[ae,if_neg (by omega),if_neg (by omega),<-bn,dt],y8⟩)
    (m.w.setRow g n8) (WJ hm hB n8) (by simp) (λ k hk=>setRow_other _ _ _ _ hk) (setRow_heap _ _ _ _ _ _ hh)
   have m6:=kZ ty e i hu hi ad len cap fy ys.length w4 _ m.w (m.w.setRow g n8) o.type hf (λ b' j9=>by
    rw[er]at j9;obtain rfl:(⟨g,off*a5,none⟩:Addr)=b':=by simpa using j9
    exact k6) (λ hn=>by rw[er]at hn;cases hn)
   exact IL (lD j8 (by rw[u5,jr];exact m6)) (hK _ ⟨m.ν,_,m.w.setRow g n8⟩ rfl k1 k2 (JP _ _))
structure GV (P:Program) (num:Nat->Nat) (C:Cl):Prop where
 ni : ∀ (f:Nat) (vs:List AV) (r:AV),C.pure f vs=some r -> ∀ (us:Array Value) (w:World),(callFunc (num f) us).run P w = .ok (.enter (num f) us) w
 jj : ∀ (f:Nat) (vs:List AV) (own:AG) (r:AV × AG),C.db f vs own=some r -> ∀ (us:Array Value) (w:World),(callFunc (num f) us).run P w = .ok (.enter (num f) us) w
 pure : ∀ (f:Nat) (vs:List AV) (r:AV),C.pure f vs=some r -> ∀ (S:Nat->Prop) (w:World) (us:List Value),vs.length=us.length->(∀ (j:Nat) (c:AV) (v:Value),vs[j]? = some c->us[j]? = some v->CA w.heap.size S ⟨λ_ _=>none,AG.emp,w⟩ c v) ->
  Calls P (num f) us.toArray w λ e w' => ∃ u,e = .returned u/\Below w.heap.size w w'/\CV w.heap.size S ⟨λ_ _=>none,AG.emp,w'⟩ r u/\A1 r
 db : ∀ (f:Nat) (vs:List AV) (own:AG) (r:AV) (l8:AG),C.db f vs own=some (r,l8) -> ∀ (B:Nat) (S:Nat->Prop) (w0:World) (m:M) (us:List Value),m.own=own->BF B S w0 m->vs.length=us.length->(∀ (j:Nat) (c:AV) (v:Value),vs[j]? = some c->us[j]? = some v->CV B S m c v) ->
  Calls P (num f) us.toArray m.w λ e w' => ∃ u m',e = .returned u/\m'.w=w'/\m'.own=l8/\BF B S w0 m'/\C4 B S m m'/\CV B S m' r u
 num:C.num=num
end
end Go.c4

namespace Go.c4
open Go.RowKit
theorem NA {α β:Type} (f:α->Option β) : ∀ {l:List α} {l':List β},l.mapM f=some l'->l.length=l'.length /\ ∀ (i:Nat) (x:α),l[i]? = some x -> ∃ y,l'[i]? = some y/\f x=some y
 | [],l',h=>by
  simp at h;subst h;exact ⟨rfl,λ i x hx=>by simp at hx⟩
 | x::r,l',h=>by
  simp only[List.mapM_cons,Option.bind_eq_bind,Option.pure_def]at h;cases hx:f x with
  | none=>simp [hx]at h
  | some y =>
   cases hr:r.mapM f with
   | none=>simp [hx,hr]at h
   | some r' =>
    simp [hx,hr]at h;subst h;obtain ⟨h1,h2⟩:=NA f hr;refine ⟨by simp [h1],λ i z hz => ?_⟩;cases i with
    | zero=>simp at hz;subst hz;exact ⟨y,rfl,hx⟩
    | succ i=>exact h2 i z (by simpa using hz)
section
variable {B:Nat} {S:Nat->Prop} {w0:World} {m:M}
variable {P:Program} {num:Nat->Nat} {o:Oper} {a:Act} {ρ:AM->AV}
theorem mC (hm:BF B S w0 m) (l0:Bool) (R:Bool->Nat->Prop) (hR : ∀ l b,b<m.w.heap.size->safe B S m l b->R l b) (hL : ∀ s t g,live m s t->m.ν s t=some g->R l0 g) :
  ∀ (d:Nat) (c c':AV) (v:Value),snap m.own l0 d c=some c'->CC B S m c v->Rd m.w R c' v:=by
 intro d;induction d with
 | zero =>
  intro c c' v h hc;cases hc with
  | rd hr =>
   have:c'=c:=by cases hr<;>simp [snap]at h<;>exact h.symm
   subst this;exact hr.mono hR (λ_ _ _ _=>rfl)
  | nil=>simp [snap]at h;subst h;exact .eh _ _ _
  | _=>simp [snap]at h
 | succ d ih =>
  intro c c' v h hc;cases hc with
  | rd hr =>
   have:c'=c:=by cases hr<;>simp [snap]at h<;>exact h.symm
   subst this;exact hr.mono hR (λ_ _ _ _=>rfl)
  | nil=>simp [snap]at h;subst h;exact .eh _ _ _
  | ptr=>simp [snap]at h
  | o7=>simp [snap]at h
  | row s t z off len ad cap ht aw fq ha hb =>
   simp only[snap]at h;cases w5:DM m.own (.row s t z off len) with
   | none=>simp [w5]at h
   | some es =>
    simp only[w5]at h;cases dv:es.mapM (λ cs:List AV=>cs.mapM (snap m.own l0 d)) with
    | none=>simp [dv]at h
    | some es' =>
     simp [dv]at h;subst h;have Fa:(∀ e∈es,e.length=z)/\es.length=len /\ ∃ b,m.own.get s t=some b:=by
      simp only[DM]at w5;cases l7:m.own.get s t with
      | none=>simp [l7]at w5
      | some b =>
       simp only[l7]at w5;split at w5
       ·rename_i hle
        obtain rfl:=Option.some.inj w5;refine ⟨λ e he => ?_,by simp;omega,b,rfl⟩;rw[<-hle.2];exact (hm.c9 s t b l7).1 e (List.mem_of_mem_drop (List.mem_of_mem_take he))
       ·cases w5
     obtain ⟨hz,hlen,b,l7⟩:=Fa;have q6:CV B S m (.row s t z off len) (.slice ad len cap):= .ca (.one (.row s t z off len ad cap ht aw fq ha hb));obtain ⟨Om,Cd,news,Bl,hE⟩:=RR hm q6 w5 hz aw;obtain ⟨rfl,_,rfl⟩:ad=Om/\len=es.length/\cap=Cd:=by simpa using Bl
     obtain ⟨fk,nv⟩:=NA _ dv;by_cases h0:es=[]
     ·subst h0
      have:es'=[]:=List.eq_nil_of_length_eq_zero (by rw[<-fk];rfl)
      subst this;have:len=0:=by rw[<-hlen];rfl
      subst this;exact .eh _ _ _
     ·obtain ⟨_,al⟩:=hb b l7
      rcases al with ⟨Qu,_⟩|⟨g,arr,e',hg,er,hh,ym⟩
      ·exact absurd (List.eq_nil_of_length_eq_zero (by omega)) h0
      ·rw[er,<-hlen,fk]
       refine .sl l0 es' g (off*z) z cap (λ i j=>news.getD (i*z+j) undef) (λ e=>h0 (List.eq_nil_of_length_eq_zero (by rw[fk,e];rfl))) aw (hL s t g ⟨b,l7⟩ hg) (by omega) (λ e' du => ?_) (λ i e hi j c hj => ?_) (λ i e hi j c hj => ?_)
       ·obtain ⟨i,hi,rfl⟩:=List.getElem_of_mem du
        have m4:i<es.length:=by omega
        obtain ⟨y,hy,ct⟩:=nv i es[i] (zE m4);have:es'[i]=y:=by
         have:=(zS hy).2;exact this
        rw[this,<-(NA _ ct).1];exact hz _ (List.getElem_mem m4)
       ·have m4:i<es.length:=by rw[fk];exact (zS hi).1
        obtain ⟨y,hy,ct⟩:=nv i es[i] (zE m4);rw[hi]at hy;obtain rfl:e=y:=by simpa using hy
        obtain ⟨eu,_⟩:=NA _ ct;have wg:j<(es[i]).length:=by rw[eu];exact (zS hj).1
        obtain ⟨u,hu,y8⟩:=hE.rel i es[i] (zE m4) j _ (zE wg);have:=hE.cells _ er (i*z+j) u hu
        rw[GI]at this;simp only[List.getD,hu,Option.getD_some];exact this
       ·have m4:i<es.length:=by rw[fk];exact (zS hi).1
        obtain ⟨y,hy,ct⟩:=nv i es[i] (zE m4);rw[hi]at hy;obtain rfl:e=y:=by simpa using hy
        obtain ⟨eu,fj⟩:=NA _ ct;have wg:j<(es[i]).length:=by rw[eu];exact (zS hj).1
        obtain ⟨u,hu,y8⟩:=hE.rel i es[i] (zE m4) j _ (zE wg);obtain ⟨c2,oz,lv⟩:=fj j _ (zE wg);rw[hj]at oz;obtain rfl:c=c2:=by simpa using oz
        simp only[List.getD,hu,Option.getD_some];exact ih _ _ _ lv y8
def DA (w:World) (R:Bool->Nat->Prop) (c:AV) (v:Value):Prop :=
 Rd w R c v \/ ∃ (cs:List AV) (vs:List Value),c = .agg cs/\v = .agg vs.toArray/\cs.length=vs.length /\ ∀ (j:Nat) (x:AV) (u:Value),cs[j]? = some x->vs[j]? = some u->Rd w R x u
theorem VQ (hm:BF B S w0 m) (l0:Bool) (R:Bool->Nat->Prop) (hR : ∀ l b,b<m.w.heap.size->safe B S m l b->R l b) (hL : ∀ s t g,live m s t->m.ν s t=some g->R l0 g)
  {c c':AV} {v:Value} (h:C7 m.own l0 c=some c') (hc:CV B S m c v):DA m.w R c' v:=by
 cases hc with
 | any v=>simp [C7,snap]at h
 | j4=>simp [C7,snap]at h
 | ca hc=>cases hc with
  | one hc =>
   have h':snap m.own l0 6 c=some c':=by
    cases hc with
    | rd hr=>cases hr<;>simpa [C7] using h
    | _=>simpa [C7] using h
   exact Or.inl (mC hm l0 R hR hL 6 c c' v h' hc)
  | fn=>simp [C7,snap]at h
  | agg cs vs n6 =>
   simp only[C7]at h;cases fi:cs.mapM (snap m.own l0 6) with
   | none=>simp [fi]at h
   | some bl =>
    simp [fi]at h;subst h;obtain ⟨h1,h2⟩:=NA _ fi;refine Or.inr ⟨bl,vs,rfl,rfl,h1.symm.trans n6.1,λ j x u hx hu => ?_⟩;have hj:j<cs.length:=by rw[h1];exact (zS hx).1
    obtain ⟨y,hy,ct⟩:=h2 j cs[j] (zE hj);rw[hx]at hy;obtain rfl:x=y:=by simpa using hy
    exact mC hm l0 R hR hL 6 _ _ _ ct (n6.2 j cs[j] u (zE hj) hu)
def DV (w:World) (R:Bool->Nat->Prop) (c:AV) (v:Value):Prop :=
 DA w R c v \/ ∃ (cs:List AV) (vs:List Value),c = .j4 cs/\v = .tuple vs.toArray/\cs.length=vs.length /\ ∀ (j:Nat) (x:AV) (u:Value),cs[j]? = some x->vs[j]? = some u->DA w R x u
theorem Ld (hm:BF B S w0 m) (l0:Bool) (R:Bool->Nat->Prop) (hR : ∀ l b,b<m.w.heap.size->safe B S m l b->R l b) (hL : ∀ s t g,live m s t->m.ν s t=some g->R l0 g)
  {c c':AV} {v:Value} (h:OA m.own l0 c=some c') (hc:CV B S m c v):DV m.w R c' v:=by
 by_cases ht : ∃ cs,c = .j4 cs
 ·obtain ⟨cs,rfl⟩:=ht
  obtain ⟨vs,rfl,hl,s8⟩:=WW hc;simp only[OA]at h;cases fi:cs.mapM (C7 m.own l0) with
  | none=>simp [fi]at h
  | some bl =>
   simp [fi]at h;subst h;obtain ⟨h1,h2⟩:=NA _ fi;refine Or.inr ⟨bl,vs,rfl,rfl,h1.symm.trans hl,λ j x u hx hu => ?_⟩;have hj:j<cs.length:=by rw[h1];exact (zS hx).1
   obtain ⟨y,hy,ct⟩:=h2 j cs[j] (zE hj);rw[hx]at hy;obtain rfl:x=y:=by simpa using hy
   exact VQ hm l0 R hR hL ct (.ca (s8 j cs[j] u (zE hj) hu))
 ·have h':C7 m.own l0 c=some c':=by
   cases c<;>first|exact h|exact absurd ⟨_,rfl⟩ ht
  exact Or.inl (VQ hm l0 R hR hL h' hc)
theorem DA.ca {B:Nat} {S:Nat->Prop} {m:M} {c:AV} {v:Value} (h:DA m.w (safe B S m) c v):CA B S m c v:=by
 rcases h with h|⟨cs,vs,rfl,rfl,hl,hh⟩
 ·exact .one (.rd h)
 ·exact .agg cs vs ⟨hl,λ j x u hx hu => .rd (hh j x u hx hu)⟩
theorem DV.cv {B:Nat} {S:Nat->Prop} {m:M} {c:AV} {v:Value} (h:DV m.w (safe B S m) c v):CV B S m c v:=by
 rcases h with h|⟨cs,vs,rfl,rfl,hl,hh⟩
 ·exact .ca h.ca
 ·exact .j4 cs vs hl λ j x u hx hu=>(hh j x u hx hu).ca
theorem MD : ∀ {cs:List AV},CM cs -> ∀ (j:Nat) (c:AV),cs[j]? = some c->A1 c
 | [],_,j,c,h=>by simp at h
 | x::r,hc,j,c,h=>by
  unfold CM at hc;cases j with
  | zero=>simp at h;subst h;exact hc.1
  | succ j=>exact MD hc.2 j c (by simpa using h)
theorem TY : ∀ {cs:List (List AV)},FO cs -> ∀ (j:Nat) (c:List AV),cs[j]? = some c->CM c
 | [],_,j,c,h=>by simp at h
 | x::r,hc,j,c,h=>by
  unfold FO at hc;cases j with
  | zero=>simp at h;subst h;exact hc.1
  | succ j=>exact TY hc.2 j c (by simpa using h)
theorem Rd.clean {w:World} {R R':Bool->Nat->Prop} (hR : ∀ b,b<w.heap.size->R false b->R' false b) {c:AV} {v:Value} (h:Rd w R c v) (hc:A1 c):Rd w R' c v:=by
 induction h with
 | int k n=>exact .int k n
 | bool b=>exact .bool b
 | str s=>exact .str s
 | eh l a cap=>exact .eh l a cap
 | emp b a cap h=>exact .emp b a cap h
 | sl l es b o a5 cap u k8 hp h1 s9 hz n6 hr ih =>
  unfold A1 at hc;obtain ⟨rfl,hc⟩:=hc;obtain ⟨e,c,he,cr⟩:=R2 k8 hp hz;have hb:b<w.heap.size:=OS (n6 0 e he 0 c cr);exact .sl false es b o a5 cap u k8 hp (hR b hb h1) s9 hz n6 λ i e he j c hj=>ih i e he j c hj (MD (TY hc i e he) j c hj)
theorem DA.clean {w:World} {R R':Bool->Nat->Prop} (hR : ∀ b,b<w.heap.size->R false b->R' false b) {c:AV} {v:Value} (h:DA w R c v) (hc:A1 c):DA w R' c v:=by
 rcases h with h|⟨cs,vs,rfl,rfl,hl,hh⟩
 ·exact Or.inl (h.clean hR hc)
 ·unfold A1 at hc
  exact Or.inr ⟨cs,vs,rfl,rfl,hl,λ j x u hx hu=>(hh j x u hx hu).clean hR (MD hc j x hx)⟩
theorem DV.clean {w:World} {R R':Bool->Nat->Prop} (hR : ∀ b,b<w.heap.size->R false b->R' false b) {c:AV} {v:Value} (h:DV w R c v) (hc:A1 c):DV w R' c v:=by
 rcases h with h|⟨cs,vs,rfl,rfl,hl,hh⟩
 ·exact Or.inl (h.clean hR hc)
 ·unfold A1 at hc
  exact Or.inr ⟨cs,vs,rfl,rfl,hl,λ j x u hx hu=>(hh j x u hx hu).clean hR (MD hc j x hx)⟩
theorem WU {B:Nat} {S:Nat->Prop} {m:M} {c:AV} {v:Value} (h:CV B S m c v) (hc:A1 c):DV m.w (safe B S m) c v:=by
 have one : ∀ {c:AV} {v:Value},CC B S m c v->A1 c->Rd m.w (safe B S m) c v:=λ h hc=>by
  cases h with
  | rd h=>exact h
  | _=>unfold A1 at hc;exact hc.elim
 have ca : ∀ {c:AV} {v:Value},CA B S m c v->A1 c->DA m.w (safe B S m) c v:=λ h hc=>by
  cases h with
  | one h=>exact Or.inl (one h hc)
  | fn=>unfold A1 at hc;exact hc.elim
  | agg cs vs h =>
   unfold A1 at hc;exact Or.inr ⟨cs,vs,rfl,rfl,h.1,λ j x u hx hu=>one (h.2 j x u hx hu) (MD hc j x hx)⟩
 cases h with
 | any v=>unfold A1 at hc;exact hc.elim
 | ca h=>exact Or.inl (ca h hc)
 | j4 as vs hl h =>
  unfold A1 at hc;exact Or.inr ⟨as,vs,rfl,rfl,hl,λ j x u hx hu=>ca (h j x u hx hu) (MD hc j x hx)⟩
theorem VG {f:Nat} {xs:Array Operand} {ts:Array TypeId} (j8:o.op = .call ⟨.value (.func f),xs,ts⟩) {w:World} (h:(callFunc f (xs.map a.eval)).run P w = .ok (.enter f (xs.map a.eval)) w):(execOp a.eval o).run P w = .ok (.enter f (xs.map a.eval)) w:=by
 simp [execOp,j8,resolve,Deferred.ofValue,Act.eval,invoke];exact h
theorem dY {C:Cl} (hC:GV P num C) (hm:BF B S w0 m) (hs:B6 B S m ρ a.eval) {f:Nat} {xs:Array Operand} {m8:List AM} (he:DR xs.toList m8=true) (hex : ∀ w:World,(callFunc (num f) (xs.map a.eval)).run P w = .ok (.enter (num f) (xs.map a.eval)) w->(execOp a.eval o).run P w = .ok (.enter (num f) (xs.map a.eval)) w) {vs:List AV} {r:AV} (hv:(m8.map ρ).mapM (C7 m.own true)=some vs) (hr:C.pure f vs=some r):B9 B S w0 P o a m (.val r):=by
 obtain ⟨hl,hx⟩:=QC hs he;obtain ⟨eu,fj⟩:=NA _ hv;have dz:(xs.map a.eval)=(xs.toList.map a.eval).toArray:=by cases xs;simp
 have fh : ∀ (j:Nat) (c:AV) (v:Value),vs[j]? = some c->(xs.toList.map a.eval)[j]? = some v->CA m.w.heap.size (safe B S m false) ⟨λ_ _=>none,AG.emp,m.w⟩ c v:=by
  intro j c v hc kn;rw[List.getElem?_map]at kn;cases ig:xs.toList[j]? with
  | none=>simp [ig]at kn
  | some x =>
   simp [ig]at kn;subst kn;have bm:j<m8.length:=by rw[<-hl];exact (zS ig).1
   obtain ⟨y,hy,ct⟩:=fj j (ρ m8[j]) (by rw[List.getElem?_map,zE bm];rfl);rw[hc]at hy;obtain rfl:c=y:=by simpa using hy
   have q6:=hx j x m8[j] ig (zE bm);have uh:=VQ hm true (safe m.w.heap.size (safe B S m false) ⟨λ_ _=>none,AG.emp,m.w⟩) (λ l b hb qp=>by
    cases l with
    | false=>exact .inl ⟨qp,hb⟩
    | true=>exact .inr (.inr ⟨rfl,hb⟩)) (λ s t g fc hg=>by
    obtain ⟨_,arr,e,hh⟩:=hm.ge fc hg;exact .inr (.inr ⟨rfl,(Array.getElem?_eq_some_iff.1 hh).1⟩)) ct q6
   exact DA.ca (m:=⟨λ_ _=>none,AG.emp,m.w⟩) uh
 have bq:=hC.pure f vs r hr (safe B S m false) m.w (xs.toList.map a.eval) (by rw[<-eu];simp [hl]) fh;intro K Q hK;unfold Oper.wp;rw[hex _ (hC.ni f vs r hr _ _),dz];refine Calls.mono bq λ e w' ⟨u,du,dp,q6,n6⟩ => ?_
 subst du;obtain ⟨gi,cg⟩:=grow hm dp;refine hK u ⟨m.ν,m.own,w'⟩ rfl gi cg ?_;refine DV.cv (m:=⟨m.ν,m.own,w'⟩) ((WU q6 n6).clean (λ b hb qp => ?_) n6);rcases qp with ⟨h1,h2⟩|⟨h1,_⟩|⟨h1,_⟩
 ·exact cg.td false b h2 h1
 ·refine .inr (.inl ⟨Nat.le_trans hm.size h1,λ s t fc hg => ?_⟩)
  obtain ⟨b',j9⟩:=Option.isSome_iff_exists.1 fc;obtain ⟨_,arr,e,hh⟩:=hm.ge ⟨b',j9⟩ hg;have:=(Array.getElem?_eq_some_iff.1 hh).1
  omega
 ·cases h1
theorem uB {C:Cl} (hC:GV P num C) (hm:BF B S w0 m) (hs:B6 B S m ρ a.eval) {f:Nat} {m8:List AM} (h:A2 P num o.op (.call f m8)=true) {vs:List AV} {r:AV} (hv:(m8.map ρ).mapM (C7 m.own true)=some vs) (hr:C.pure f vs=some r):B9 B S w0 P o a m (.val r):=by
 obtain ⟨xs,ts,j8,he⟩:=YO h;exact dY hC hm hs he (λ w h=>VG j8 h) hv hr
theorem dV {C:Cl} (hC:GV P num C) (hm:BF B S w0 m) (hs:B6 B S m ρ a.eval) {f:Nat} {m8:List AM} (h:A2 P num o.op (.g6 f m8)=true) {r:AV} {l8:AG} (hr:C.db f (m8.map ρ) m.own=some (r,l8)):B9 B S w0 P o a m (.y9 r l8):=by
 obtain ⟨xs,ts,j8,he⟩:=Kh h;obtain ⟨hl,hx⟩:=QC hs he;have dz:(xs.map a.eval)=(xs.toList.map a.eval).toArray:=by cases xs;simp
 have bq:=hC.db f (m8.map ρ) m.own r l8 hr B S w0 m (xs.toList.map a.eval) rfl hm (by simp [hl]) (λ j c v hc hv=>by
  rw[List.getElem?_map]at hc hv;cases ig:xs.toList[j]? with
  | none=>simp [ig]at hv
  | some x =>
   cases sw:m8[j]? with
   | none=>simp [sw]at hc
   | some y =>
    simp [ig]at hv;simp [sw]at hc;subst hv hc;exact hx j x y ig sw)
 intro K Q hK;unfold Oper.wp;rw[VG j8 (hC.jj f _ _ _ hr _ _),dz];refine Calls.mono bq λ e w' ⟨u,m',du,hw,j6,gi,cg,q6⟩ => ?_
 subst du hw;exact hK u m' j6 gi cg q6
theorem rA (hm:BF B S w0 m) {w':World} (hb:Below m.w.heap.size m.w w') (s:Nat) (b:DE) (gg:Option Nat) (hz : ∀ x∈b.es,x.length=b.a5)
  (hg:match gg with|none=>b.es=[]|some g=>m.w.heap.size<=g /\ ∃ arr e,w'.heap[g]? = some (.cells arr e (0,0)) /\ ∀ i cs,b.es[i]? = some cs -> ∀ j c,cs[j]? = some c -> ∃ u,arr[i*b.a5+j]? = some u/\CC B S ⟨g8 m s gg,m.own.put s ((m.own s).new b),w'⟩ c u) :
  BF B S w0 ⟨g8 m s gg,m.own.put s ((m.own s).new b),w'⟩/\C4 B S m ⟨g8 m s gg,m.own.put s ((m.own s).new b),w'⟩:=by
 have hν : ∀ s' t',live m s' t'->g8 m s gg s' t'=m.ν s' t':=λ s' t' hl=>by
  unfold g8;rw[if_neg];rintro ⟨rfl,rfl⟩
  exact U3 hm _ hl
 have gu : ∀ g,gg=some g->m.w.heap.size<=g:=λ g e=>by subst e;exact hg.1
 have he:C4 B S m ⟨g8 m s gg,m.own.put s ((m.own s).new b),w'⟩:=by
  refine O5 hm hb.size (λ k hk _=>hb.block k hk) (λ s' => ?_) (λ s' t' b' ht j9 => ?_) (λ s' t' g hl ae l6 => ?_)
  ·rw[I9];split
   ·rename_i h;subst h;omega
   ·exact Nat.le_refl _
  ·rw[FE]at j9
   rw[if_neg (by rintro ⟨rfl,rfl⟩;omega)]at j9;refine ⟨b',j9,rfl,hν s' t' ⟨b',j9⟩,λ g ar e' ae ha=>⟨ar,?_,rfl⟩⟩;exact (hb.block g (Array.getElem?_eq_some_iff.1 ha).1).trans ha
  ·obtain ⟨b',j9⟩:=hl
   rw[FE]at j9;by_cases h:s'=s/\t'=m.own.g7 s
   ·simp only[g8,if_pos h]at ae
    have:=gu g ae
    omega
   ·rw[if_neg h]at j9
    exact ⟨s',t',⟨b',j9⟩,by rw[<-hν s' t' ⟨b',j9⟩];exact ae⟩
 refine ⟨⟨hm.below.trans (hb.mono hm.size),Nat.le_trans hm.size hb.size,λ s' t' ht => ?_,λ s' t' b' j9 => ?_,λ s1 t1 s2 t2 b1 b2 g h1 h2 g1 g2 => ?_⟩,he⟩
 ·rw[I9]at ht
  rw[FE,if_neg]
  ·refine hm.fresh s' t' ?_
   split at ht
   ·rename_i h;subst h;omega
   ·exact ht
  ·rintro ⟨rfl,rfl⟩
   simp at ht;omega
 ·rw[FE]at j9
  by_cases h:s'=s/\t'=m.own.g7 s
  ·rw[if_pos h]at j9
   obtain rfl:b=b':=by simpa using j9
   refine ⟨hz,?_⟩;show match g8 m s gg s' t' with|none=>_|some g=>_
   rw[show g8 m s gg s' t'=gg by simp [g8,h]];cases gg with
   | none=>exact hg
   | some g=>exact ⟨Nat.le_trans hm.size hg.1,hg.2⟩
  ·rw[if_neg h]at j9
   obtain ⟨h1,h2⟩:=hm.c9 s' t' b' j9;refine ⟨h1,?_⟩;show match g8 m s gg s' t' with|none=>_|some g=>_
   rw[hν s' t' ⟨b',j9⟩];cases hv:m.ν s' t' with
   | none=>rw[hv]at h2;exact h2
   | some g =>
    rw[hv]at h2;obtain ⟨h3,ar,e',h4,h5⟩:=h2;refine ⟨h3,ar,e',(hb.block g (Array.getElem?_eq_some_iff.1 h4).1).trans h4,λ i cs hi j c hj => ?_⟩;obtain ⟨u,hu,s8⟩:=h5 i cs hi j c hj;exact ⟨u,hu,he.cc s8⟩
 ·rw[FE]at h1 h2
  have lt : ∀ s' t' b',m.own.get s' t'=some b'->g8 m s gg s' t'=some g->g<m.w.heap.size:=λ s' t' b' j9 ae=>by
   rw[hν s' t' ⟨b',j9⟩]at ae;obtain ⟨_,ar,e',h4⟩:=hm.ge ⟨b',j9⟩ ae;exact (Array.getElem?_eq_some_iff.1 h4).1
  have at_ : ∀ s' t',s'=s/\t'=m.own.g7 s->g8 m s gg s' t'=some g->m.w.heap.size<=g:=λ s' t' h ae=>by
   simp only[g8,if_pos h]at ae;exact gu g ae
  by_cases p1:s1=s/\t1=m.own.g7 s<;>by_cases p2:s2=s/\t2=m.own.g7 s
  ·exact ⟨p1.1.trans p2.1.symm,p1.2.trans p2.2.symm⟩
  ·rw[if_neg p2]at h2
   have:=lt s2 t2 b2 h2 g2
   have:=at_ s1 t1 p1 g1
   omega
  ·rw[if_neg p1]at h1
   have:=lt s1 t1 b1 h1 g1
   have:=at_ s2 t2 p2 g2
   omega
  ·rw[if_neg p1]at h1
   rw[if_neg p2]at h2;exact hm.inj s1 t1 s2 t2 b1 b2 g h1 h2 (by rw[<-hν s1 t1 ⟨b1,h1⟩];exact g1) (by rw[<-hν s2 t2 ⟨b2,h2⟩];exact g2)
theorem uE {C:Cl} (hC:GV P num C) (hm:BF B S w0 m) (hs:B6 B S m ρ a.eval) {s f:Nat} {m8:List AM} (h:A2 P num o.op (.o5 s f m8)=true) {vs:List AV} (hv:(m8.map ρ).mapM (MN m.own true)=some vs) {z:Nat} {es:List (List AV)} (hr:L9 (C.db f vs AG.emp)=some (z,es)) :
  B9 B S w0 P o a m (.new s ⟨z,es⟩ (λ t => .row s t z 0 es.length)):=by
 obtain ⟨xs,ts,j8,he⟩:=YO (Kj h);obtain ⟨s0,t0,o',b0,Gr,l7,rfl,n6⟩:=qZ hr;obtain ⟨hl,hx⟩:=QC hs he;obtain ⟨eu,fj⟩:=NA _ hv;have dz:(xs.map a.eval)=(xs.toList.map a.eval).toArray:=by cases xs;simp
 have fh : ∀ (j:Nat) (c:AV) (v:Value),vs[j]? = some c->(xs.toList.map a.eval)[j]? = some v->CV m.w.heap.size (safe B S m false) ⟨λ_ _=>none,AG.emp,m.w⟩ c v:=by
  intro j c v hc kn;rw[List.getElem?_map]at kn;cases ig:xs.toList[j]? with
  | none=>simp [ig]at kn
  | some x =>
   simp [ig]at kn;subst kn;have bm:j<m8.length:=by rw[<-hl];exact (zS ig).1
   obtain ⟨y,hy,ct⟩:=fj j (ρ m8[j]) (by rw[List.getElem?_map,zE bm];rfl);rw[hc]at hy;obtain rfl:c=y:=by simpa using hy
   have q6:=hx j x m8[j] ig (zE bm);have hN:(ρ m8[j] = .nil/\c = .nil)\/C7 m.own true (ρ m8[j])=some c:=by
    cases e:ρ m8[j] with
    | nil=>rw[e]at ct;exact .inl ⟨rfl,(Option.some.inj ct).symm⟩
    | _=>rw[e]at ct;exact .inr ct
   rcases hN with ⟨e1,rfl⟩|ct
   ·rw[e1]at q6
    rw[M3 q6];exact .ca (.one .nil)
   have uh:=VQ hm true (safe m.w.heap.size (safe B S m false) ⟨λ_ _=>none,AG.emp,m.w⟩) (λ l b hb qp=>by
    cases l with
    | false=>exact .inl ⟨qp,hb⟩
    | true=>exact .inr (.inr ⟨rfl,hb⟩)) (λ s t g fc hg=>by
    obtain ⟨_,arr,e,hh⟩:=hm.ge fc hg;exact .inr (.inr ⟨rfl,(Array.getElem?_eq_some_iff.1 hh).1⟩)) ct q6
   exact .ca (DA.ca (m:=⟨λ_ _=>none,AG.emp,m.w⟩) uh)
 have Rc:BF m.w.heap.size (safe B S m false) m.w ⟨λ_ _=>none,AG.emp,m.w⟩:=⟨Below.refl _ _,Nat.le_refl _,λ_ _ _=>rfl,(λ s t b h=>by cases h),(λ_ _ _ _ _ _ _ h=>by cases h)⟩;have bq:=hC.db f vs AG.emp _ o' Gr m.w.heap.size (safe B S m false) m.w ⟨λ_ _=>none,AG.emp,m.w⟩ (xs.toList.map a.eval) rfl Rc (by rw[<-eu];simp [hl]) fh;intro K Q hK;unfold Oper.wp;rw[VG j8 (hC.jj f _ _ _ Gr _ _),dz];refine Calls.mono bq λ e w' ⟨u,m',du,hw,j6,gi,Gk,q6⟩ => ?_
 subst du hw;have dp:Below m.w.heap.size m.w m'.w:=gi.below;rw[<-j6]at l7;obtain ⟨hz,gn⟩:=gi.c9 s0 t0 b0 l7;obtain ⟨ad,cap,rfl,ht,aw,fq,ha,hb⟩:=OX q6;obtain ⟨bj,al⟩:=hb b0 l7;subst bj;have hold : ∀ s t g,live m s t->m.ν s t=some g->g<m.w.heap.size:=λ s t g fc hg=>by
  obtain ⟨_,arr,e,hh⟩:=hm.ge fc hg;exact (Array.getElem?_eq_some_iff.1 hh).1
 have uv : ∀ s' t' g,live ⟨g8 m s (m'.ν s0 t0),m.own.put s ((m.own s).new ⟨b0.a5,b0.es⟩),m'.w⟩ s' t'->g8 m s (m'.ν s0 t0) s' t'=some g->g<m.w.heap.size\/m'.ν s0 t0=some g:=λ s' t' g fc hg=>by
  obtain ⟨b',j9⟩:=fc;rw[FE]at j9;by_cases k6:s'=s/\t'=m.own.g7 s
  ·simp only[g8,if_pos k6]at hg
   exact Or.inr hg
  ·rw[if_neg k6]at j9
   simp only[g8,if_neg k6]at hg;exact Or.inl (hold s' t' g ⟨b',j9⟩ hg)
 have hR : ∀ b,b<m'.w.heap.size->safe m.w.heap.size (safe B S m false) m' false b->safe B S ⟨g8 m s (m'.ν s0 t0),m.own.put s ((m.own s).new ⟨b0.a5,b0.es⟩),m'.w⟩ false b:=λ b Gf qp=>by
  rcases qp with ⟨h1,h2⟩|⟨h1,h2⟩|⟨h1,_⟩
  ·rcases h1 with h1|⟨h1,h3⟩|⟨h1,_⟩
   ·exact .inl h1
   ·refine .inr (.inl ⟨h1,λ s' t' fc hg => ?_⟩)
    obtain ⟨b',j9⟩:=Option.isSome_iff_exists.1 fc;have o6:=j9;rw[FE]at o6;by_cases k6:s'=s/\t'=m.own.g7 s
    ·simp only[g8,if_pos k6]at hg
     rw[hg]at gn;have:=gn.1
     omega
    ·rw[if_neg k6]at o6
     simp only[g8,if_neg k6]at hg;exact h3 s' t' (by rw[o6];rfl) hg
   ·cases h1
  ·refine .inr (.inl ⟨Nat.le_trans hm.size h1,λ s' t' fc hg => ?_⟩)
   rcases uv s' t' b (Option.isSome_iff_exists.1 fc) hg with h3|h3
   ·omega
   ·exact h2 s0 t0 (by rw[l7];rfl) h3
  ·cases h1
 obtain ⟨fr,cg⟩:=rA hm dp s ⟨b0.a5,b0.es⟩ (m'.ν s0 t0) hz (by
  cases hν:m'.ν s0 t0 with
  | none=>rw[hν]at gn;exact gn
  | some g =>
   rw[hν]at gn hR;obtain ⟨h1,arr,e,h2,h3⟩:=gn;refine ⟨h1,arr,e,h2,λ i cs hi j c hj => ?_⟩;obtain ⟨u,hu,s8⟩:=h3 i cs hi j c hj;refine ⟨u,hu,.rd ?_⟩;have nm:=MD (TY n6 i cs hi) j c hj;have gj:Rd m'.w (safe m.w.heap.size (safe B S m false) m') c u:=by
    cases s8 with
    | rd h=>exact h
    | _=>unfold A1 at nm;exact nm.elim
   exact gj.clean hR nm)
 refine hK _ ⟨g8 m s (m'.ν s0 t0),m.own.put s ((m.own s).new ⟨b0.a5,b0.es⟩),m'.w⟩ rfl fr cg (.ca (.one (.row s (m.own.g7 s) b0.a5 0 b0.es.length ad cap (by show m.own.g7 s<AG.g7 (m.own.put s _) s;rw[I9,if_pos rfl];omega) aw fq ha λ b1 uc => ?_)));have yf:(m.own.put s ((m.own s).new ⟨b0.a5,b0.es⟩)).get s (m.own.g7 s)=some b1:=uc;rw[FE,if_pos ⟨rfl,rfl⟩]at yf;obtain rfl:=Option.some.inj yf;refine ⟨rfl,?_⟩;rcases al with h0|⟨g,arr,e,hg,er,hh,hle⟩
 ·exact .inl h0
 ·exact .inr ⟨g,arr,e,by simp [g8,hg],er,hh,hle⟩
theorem dG {p:Bool} {f g:Nat} {cs:List AV} {v:Value} (h:CV B S m (.fn p f g cs) v) : ∃ vs:List Value,v = .func (.func g) #[] vs.toArray/\CL B S m cs vs:=by
 cases h with
 | ca h=>cases h with
  | one h=>cases h with
   | rd h=>cases h
  | fn p f g cs vs h=>exact ⟨vs,rfl,h⟩
theorem lC {f:Nat} {x:Operand} {xs:Array Operand} {ts:Array TypeId} {vs:Array Value} (j8:o.op = .call ⟨.value x,xs,ts⟩) (hx:a.eval x = .func (.func f) #[] vs) {w:World} (h:(callFunc f (xs.map a.eval++vs)).run P w = .ok (.enter f (xs.map a.eval++vs)) w):(execOp a.eval o).run P w = .ok (.enter f (xs.map a.eval++vs)) w:=by
 simp [execOp,j8,resolve,Deferred.ofValue,hx,invoke];exact h
theorem uF {C:Cl} (hC:GV P num C) (hm:BF B S w0 m) (hs:B6 B S m ρ a.eval) {x':AM} {m8:List AM} (h:A2 P num o.op (.n9 x' m8)=true) {f:Nat} {cs:List AV} (hf:ρ x' = .fn false f (num f) cs) {r:AV} {l8:AG} (hr:C.db f (m8.map ρ++cs) m.own=some (r,l8)):B9 B S w0 P o a m (.y9 r l8):=by
 obtain ⟨x,xs,ts,j8,qu,he⟩:=iP h;obtain ⟨hl,hx⟩:=QC hs he;obtain ⟨vs,hv,n6⟩:=dG (hf ▸ hs x x' qu);have dz:(xs.map a.eval++vs.toArray)=(xs.toList.map a.eval++vs).toArray:=by cases xs;simp
 have bq:=hC.db f (m8.map ρ++cs) m.own r l8 hr B S w0 m (xs.toList.map a.eval++vs) rfl hm (by simp [hl,n6.1]) (λ j c v hc hv=>by
  by_cases hj:j<m8.length
  ·rw[List.getElem?_append_left (by simpa using hj),List.getElem?_map]at hc
   rw[List.getElem?_append_left (by simpa [hl] using hj),List.getElem?_map]at hv;have Gt:j<xs.toList.length:=by rw[hl];exact hj
   rw[zE hj]at hc;rw[zE Gt]at hv;simp only[Option.map_some,Option.some.injEq]at hc hv;subst hc hv;exact hx j _ _ (zE Gt) (zE hj)
  ·rw[List.getElem?_append_right (by simpa using hj),List.length_map]at hc
   rw[List.getElem?_append_right (by simpa [hl] using hj),List.length_map,hl]at hv;exact .ca (.one (n6.2 _ c v hc hv)))
 intro K Q hK;unfold Oper.wp;rw[lC j8 hv (hC.jj f _ _ _ hr _ _),dz];refine Calls.mono bq λ e w' ⟨u,m',du,hw,j6,gi,cg,q6⟩ => ?_
 subst du hw;exact hK u m' j6 gi cg q6
theorem uC {C:Cl} (hC:GV P num C) (hm:BF B S w0 m) (hs:B6 B S m ρ a.eval) {x':AM} {m8:List AM} (h:A2 P num o.op (.n9 x' m8)=true) {f:Nat} (hf:ρ x' = .fn true f (num f) []) {vs:List AV} {r:AV} (hv:(m8.map ρ).mapM (C7 m.own true)=some vs) (hr:C.pure f vs=some r):B9 B S w0 P o a m (.val r):=by
 obtain ⟨x,xs,ts,j8,qu,he⟩:=iP h;obtain ⟨us,hu,n6⟩:=dG (hf ▸ hs x x' qu);have Ry:us=[]:=List.eq_nil_of_length_eq_zero (by rw[<-n6.1];rfl);subst Ry;refine dY hC hm hs he (λ w h => ?_) hv hr;have:=lC (P:=P) (w:=w) j8 hu (by simpa using h)
 simpa using this
theorem Rd.Ti {w:World} {R R':Bool->Nat->Prop} (hR : ∀ l b,b<w.heap.size->R l b -> ∀ l',R' l' b) {c:AV} {v:Value} (h:Rd w R c v) (hq:F6 c=true):Rd w R' (QZ c) v:=by
 cases h with
 | int k n=>exact .int k n
 | bool b=>exact .bool b
 | str s=>simp [F6]at hq
 | emp=>simp [F6]at hq
 | eh l a cap=>exact .eh false a cap
 | sl l es b o a5 cap u k8 hp h1 s9 hz n6 hr =>
  obtain ⟨e,c,he,cr⟩:=R2 k8 hp hz;have hb:b<w.heap.size:=OS (n6 0 e he 0 c cr);exact .sl false es b o a5 cap u k8 hp (hR l b hb h1 false) s9 hz n6 λ i e he j c hj=>(hr i e he j c hj).mono (λ l b hb h=>hR l b hb h l) (λ_ _ _ _=>rfl)
theorem Rd.ri {w:World} {R R':Bool->Nat->Prop} (hR : ∀ b,b<w.heap.size->R false b->R' true b) {c:AV} {v:Value} (h:Rd w R c v) (hc:A1 c) (hf:Q5 c):Rd w R' (R9 c) v:=by
 cases h with
 | int k n=>exact .int k n
 | bool b=>exact .bool b
 | str s=>exact hf.elim
 | emp=>exact hf.elim
 | eh l a cap=>exact .eh true a cap
 | sl l es b o a5 cap u k8 hp h1 s9 hz n6 hr =>
  unfold A1 at hc;obtain ⟨rfl,hc⟩:=hc;obtain ⟨e,c,he,cr⟩:=R2 k8 hp hz;have hb:b<w.heap.size:=OS (n6 0 e he 0 c cr);refine .sl true es b o a5 cap u k8 hp (hR b hb h1) s9 hz n6 λ i e he j c hj => ?_
  have Dt:=hf e (zM he) c (zM hj);have Gy:=hr i e he j c hj;generalize u i j=vv at Gy ⊢;cases Gy<;>first|exact .int _ _|exact .bool _|(simp [Y3]at Dt)
theorem YR : ∀ l:List AV,GN l=l.map FH
 | []=>by simp [GN]
 | c::r=>by rw[GN,YR r];rfl
theorem jE : ∀ l:List (List AV),H6 l=l.map λ e=>e.map FH
 | []=>by simp [H6]
 | c::r=>by rw[H6,jE r,YR];rfl
theorem Rd.rj {w:World} {R R':Bool->Nat->Prop} (hR : ∀ b,b<w.heap.size->R false b->R' true b) {c:AV} {v:Value} (h:Rd w R c v):A1 c->Rd w R' (FH c) v:=by
 induction h with
 | int k n=>intro _;exact .int k n
 | bool b=>intro _;exact .bool b
 | str s=>intro _;exact .str s
 | emp b a cap h=>intro _;exact .emp b a cap h
 | eh l a cap=>intro _;exact .eh true a cap
 | sl l es b o a5 cap u k8 hp h1 s9 hz n6 hr ih =>
  intro hc;unfold A1 at hc;obtain ⟨rfl,hc⟩:=hc;obtain ⟨e,c,he,cr⟩:=R2 k8 hp hz;have hb:b<w.heap.size:=OS (n6 0 e he 0 c cr);have iu : ∀ (i:Nat) (e':List AV),(es.map λ e:List AV=>e.map FH)[i]? = some e' -> ∃ e,es[i]? = some e/\e'=e.map FH:=λ i e' h=>by
   rw[List.getElem?_map]at h;cases hi:es[i]? with
   | none=>simp [hi]at h
   | some e=>exact ⟨e,rfl,by simpa [hi] using h.symm⟩
  have ye : ∀ (e:List AV) (j:Nat) (c':AV),(e.map FH)[j]? = some c' -> ∃ c,e[j]? = some c/\c'=FH c:=λ e j c' h=>by
   rw[List.getElem?_map]at h;cases hi:e[j]? with
   | none=>simp [hi]at h
   | some c=>exact ⟨c,rfl,by simpa [hi] using h.symm⟩
  have key:=Rd.sl (w:=w) (R:=R') true (es.map λ e:List AV=>e.map FH) b o a5 cap u (by simpa using k8) hp (hR b hb h1) (by simpa using s9)
   (λ e' du=>by
    obtain ⟨e,he,rfl⟩:=List.mem_map.1 du;rw[List.length_map];exact hz e he)
   (λ i e' hi j c' hj=>by
    obtain ⟨e,he,rfl⟩:=iu i e' hi;obtain ⟨c,vt,rfl⟩:=ye e j c' hj;exact n6 i e he j c vt)
   (λ i e' hi j c' hj=>by
    obtain ⟨e,he,rfl⟩:=iu i e' hi;obtain ⟨c,vt,rfl⟩:=ye e j c' hj;exact ih i e he j c vt (MD (TY hc i e he) j c vt))
  rw[List.length_map]at key;rw[FH,jE];exact key
theorem uD {C:Cl} (hC:GV P num C) (hm:BF B S w0 m) (hs:B6 B S m ρ a.eval) {f:Nat} {m8:List AM} (h:A2 P num o.op (.k9 f m8)=true) (hq:(m8.map ρ).all dq=true) {r:AV} (hr:C.pure f ((m8.map ρ).map px)=some r) (Dh:G8 r\/OH r):B9 B S w0 P o a m (.val (JL r)):=by
 obtain ⟨xs,ts,j8,he⟩:=YO (Ki h);obtain ⟨hl,hx⟩:=QC hs he;have dz:(xs.map a.eval)=(xs.toList.map a.eval).toArray:=by cases xs;simp
 have hR : ∀ l b,b<m.w.heap.size->safe B S m l b -> ∀ l',safe m.w.heap.size (safe B S m true) ⟨λ_ _=>none,AG.emp,m.w⟩ l' b:=λ l b hb h l' => .inl ⟨ZU h,hb⟩
 have hcell : ∀ (c:AV) (v:Value),CC B S m c v->F6 c=true->Rd m.w (safe m.w.heap.size (safe B S m true) ⟨λ_ _=>none,AG.emp,m.w⟩) (QZ c) v:=λ c v hc hd=>by
  cases hc with
  | rd hr=>exact hr.Ti hR hd
  | nil=>exact .eh false none 0
  | row=>simp [F6]at hd
  | ptr=>simp [F6]at hd
  | o7=>simp [F6]at hd
 have fh : ∀ (j:Nat) (c:AV) (v:Value),((m8.map ρ).map px)[j]? = some c->(xs.toList.map a.eval)[j]? = some v->CA m.w.heap.size (safe B S m true) ⟨λ_ _=>none,AG.emp,m.w⟩ c v:=by
  intro j c v hc kn;rw[List.getElem?_map,List.getElem?_map]at hc;rw[List.getElem?_map]at kn;cases ig:xs.toList[j]? with
  | none=>simp [ig]at kn
  | some x =>
   cases sw:m8[j]? with
   | none=>simp [sw]at hc
   | some y =>
    simp [ig]at kn;simp [sw]at hc;subst kn hc;have q6:=hx j x y ig sw;have hd:dq (ρ y)=true:=List.all_eq_true.1 hq _ (List.mem_map_of_mem (zM sw));generalize ρ y=cy at q6 hd ⊢;generalize a.eval x=vx at q6 ⊢;cases q6 with
    | any=>simp [dq,F6]at hd
    | j4=>simp [dq,F6]at hd
    | ca lk =>
     cases lk with
     | one ud =>
      have gp:F6 cy=true/\px cy=QZ cy:=by
       cases ud with
       | rd hr=>cases hr<;>exact ⟨hd,rfl⟩
       | _=>exact ⟨hd,rfl⟩
      rw[gp.2];exact .one (.rd (hcell _ _ ud gp.1))
     | agg cs vs n6 =>
      refine .agg (cs.map QZ) vs ⟨by simpa using n6.1,λ k c' v' u6 iy => ?_⟩;rw[List.getElem?_map]at u6;cases jl:cs[k]? with
      | none=>simp [jl]at u6
      | some c0 =>
       simp [jl]at u6;subst u6;exact .rd (hcell c0 v' (n6.2 k c0 v' jl iy) (List.all_eq_true.1 hd _ (zM jl)))
     | fn=>simp [dq,F6]at hd
 have bq:=hC.pure f _ r hr (safe B S m true) m.w (xs.toList.map a.eval) (by simp [hl]) fh;intro K Q hK;unfold Oper.wp;rw[VG j8 (hC.ni f _ r hr _ _),dz];refine Calls.mono bq λ e w' ⟨u,du,dp,q6,n6⟩ => ?_
 subst du;obtain ⟨gi,cg⟩:=grow hm dp;refine hK u ⟨m.ν,m.own,w'⟩ rfl gi cg ?_;have dn : ∀ b,b<w'.heap.size->safe m.w.heap.size (safe B S m true) ⟨λ_ _=>none,AG.emp,w'⟩ false b->safe B S ⟨m.ν,m.own,w'⟩ true b:=λ b hb qp=>by
  rcases qp with ⟨h1,h2⟩|⟨h1,_⟩|⟨h1,_⟩
  ·exact cg.td true b h2 h1
  ·refine .inr (.inl ⟨Nat.le_trans hm.size h1,λ s t fc hg => ?_⟩)
   obtain ⟨b',j9⟩:=Option.isSome_iff_exists.1 fc;obtain ⟨_,arr,e,hh⟩:=hm.ge ⟨b',j9⟩ hg;have:=(Array.getElem?_eq_some_iff.1 hh).1
   omega
  ·cases h1
 by_cases ch:G8 r
 ·rw[YT ch]
  rcases WU q6 n6 with uh|⟨cs,vs,rfl,_⟩
  ·rcases uh with gj|⟨cs,vs,rfl,rfl,eu,hh⟩
   ·have e1:qz r=R9 r/\Q5 r:=by cases gj<;>exact ⟨rfl,ch⟩
    rw[show BT.valOf (.val (qz r)) m.own=qz r from rfl,e1.1];exact .ca (.one (.rd (gj.ri dn n6 e1.2)))
   ·unfold A1 at n6
    refine .ca (.agg (cs.map R9) vs ⟨by simpa using eu,λ k c' v' u6 iy => ?_⟩);rw[List.getElem?_map]at u6;cases jl:cs[k]? with
    | none=>simp [jl]at u6
    | some c0 =>
     simp [jl]at u6;subst u6;exact .rd ((hh k c0 v' jl iy).ri dn (MD n6 k c0 jl) (ch c0 (zM jl)))
  ·exact ch.elim
 ·rw[YS ch]
  have hd:=Dh.resolve_left ch;rcases WU q6 n6 with uh|⟨cs,vs,rfl,_⟩
  ·rcases uh with gj|⟨cs,vs,rfl,rfl,eu,hh⟩
   ·have e1:IW r=FH r:=by cases gj<;>rfl
    rw[show BT.valOf (.val (IW r)) m.own=IW r from rfl,e1];exact .ca (.one (.rd (gj.rj dn n6)))
   ·unfold A1 at n6
    rw[show BT.valOf (.val (IW (.agg cs))) m.own = .agg (GN cs) from rfl,YR];refine .ca (.agg (cs.map FH) vs ⟨by simpa using eu,λ k c' v' u6 iy => ?_⟩);rw[List.getElem?_map]at u6;cases jl:cs[k]? with
    | none=>simp [jl]at u6
    | some c0 =>
     simp [jl]at u6;subst u6;exact .rd ((hh k c0 v' jl iy).rj dn (MD n6 k c0 jl))
  ·exact hd.elim
end
end Go.c4
