/-
  The operations that make and read memory.
-/
import Derived.Test.YtfnglkabkfmjcaaGreatB1
import Derived.Laws.Slices
set_option linter.unusedSimpArgs false
set_option linter.unusedVariables false
set_option linter.unnecessarySimpa false
namespace Go.c5
open Go.RowKit
section
variable {B:Nat} {S:Nat->Prop} {w0:World} {m:M}
variable {P:Program} {num:Nat->Nat} {o:Oper} {a:Act} {ρ:AP->AV}
theorem S4 {cs:List AV} {vs:List Value} (h:CL B S m cs vs) {j:Nat} {c:AV} (hj:cs[j]? = some c) : ∃ u,vs[j]? = some u/\CC B S m c u:=by
 have k7:j<cs.length:=(zS hj).1;have ub:j<vs.length:=by rw[<-h.1];exact k7
 exact ⟨vs[j],zE ub,h.2 j c _ hj (zE ub)⟩
theorem Afk {s:Nat} {b:DT} {w':World} {g:Nat}:CV B S ⟨j4 m s (some g),m.own.put s ((m.own s).new b),w'⟩ (.ptr s (m.own.g9 s) 0 0) (.pointer (some ⟨g,0,none⟩)):=by
 refine .ca (.one (.ptr s (m.own.g9 s) 0 0 ⟨g,0,none⟩ ?_ λ b' k6=>⟨g,?_,by simp⟩))
 ·show _<AH.g9 _ s
  rw[KM];simp
 ·simp [j4]
theorem lU (hm:BP B S w0 m) (s:Nat) (cs:List AV) (vs:Array Value) (e:TypeId) (hc:CL B S m cs vs.toList) (h:(execOp a.eval o).run P m.w = .ok (.value (.pointer (some ⟨m.w.heap.size,0,none⟩))) (m.w.alloc (.cells vs e))) :
  CS B S w0 P o a m (.new s ⟨cs.length,[cs]⟩ (λ t => .ptr s t 0 0)):=by
 intro K Q hK;obtain ⟨h1,h2⟩:=UR hm s ⟨cs.length,[cs]⟩ vs e (by simp) (λ i dw hi j c hj=>by
  cases i with
  | zero =>
   obtain rfl:cs=dw:=by simpa using hi
   obtain ⟨u,hu,u6⟩:=S4 hc hj;exact ⟨u,by simpa using hu,u6⟩
  | succ i=>simp at hi)
 exact JP h (hK _ ⟨j4 m s (some m.w.heap.size),m.own.put s ((m.own s).new ⟨cs.length,[cs]⟩),m.w.alloc (.cells vs e)⟩ rfl h1 h2 Afk)
theorem Vv (hm:BP B S w0 m) (hs:CN B S m ρ a.eval) {s:Nat} {x':AP} (h:A8 P num o.op (.box s x')=true) {cs:List AV} (hc:cellsOf (ρ x')=some cs) :
  CS B S w0 P o a m (.new s ⟨cs.length,[cs]⟩ (λ t => .ptr s t 0 0)):=by
 obtain ⟨t,x,j8,h1⟩:=Aeh h;exact lU hm s cs (a.eval x).cells t (X5 (hs x x' h1) hc) (by simp [execOp,j8,Instr.box,newVar,newRow])
theorem Sa (hm:BP B S w0 m) {s:Nat} {z:List AV} (h:A8 P num o.op (.alloc s z)=true):CS B S w0 P o a m (.new s ⟨z.length,[z]⟩ (λ t => .ptr s t 0 0)):=by
 obtain ⟨t,j8,h1⟩:=Aeb h;obtain ⟨i,v,hi,hz,he⟩:=iH h1;exact lU hm s z v.cells t (TD he) (by simp [execOp,j8,Instr.alloc,zeroValue,typeInfo,hi,hz,newVar,newRow])
theorem cX (off:Nat) : ∀ (vs:List Value) (k:Nat) (cells:Array Value),off+k+vs.length<=cells.size ->
  ((vs.zipIdx k).foldl (λ cs (x:Value × Nat)=>cs.setIfInBounds (off+x.2) x.1) cells).toList=cells.toList.take (off+k)++vs++cells.toList.drop (off+k+vs.length)
 | [],k,cells,_=>by simp
 | v::r,k,cells,h=>by
  simp only[List.length_cons]at h;rw[List.zipIdx_cons,List.foldl_cons,cX off r (k+1) _ (by simp;omega)];simp only[Array.toList_setIfInBounds,List.length_cons];apply List.ext_getElem?;intro q;have e1:(cells.toList.set (off+k) v).drop (off+(k+1)+r.length)=cells.toList.drop (off+k+(r.length+1)):=by
   rw[show off+(k+1)+r.length=off+k+(r.length+1) by omega];exact List.drop_set_of_lt (by omega)
  have e2:(cells.toList.set (off+k) v).take (off+(k+1))=cells.toList.take (off+k)++[v]:=by
   rw[show off+(k+1)=off+k+1 by omega,List.take_succ_eq_append_getElem (by simp;omega)];simp [List.take_set_of_le]
  rw[e1,e2];simp
theorem cQ (place:Nat->Option (Nat × Nat)) (hs:CN B S m ρ a.eval) : ∀ (ps:List (Nat × Operand)) (dv:List (Nat × Nat × AP)) (cs dw:List AV) (vs:Array Value),RW place ps dv=true->CL B S m cs vs.toList ->
  fill cs (dv.map λ p=>(p.1,p.2.1,ρ p.2.2))=some dw -> ∃ al,Instr.fill place vs (ps.map λ p=>(p.1,a.eval p.2))=some al/\CL B S m dw al.toList
 | [],[],cs,dw,vs,_,hc,hf=>by
  simp [fill]at hf;subst hf;exact ⟨vs,rfl,hc⟩
 | (i,x)::r,(off,n,y)::l,cs,dw,vs,hp,hc,hf=>by
  simp only[RW,Bool.and_eq_true,beq_iff_eq]at hp;obtain ⟨⟨Lo,Cq⟩,hp3⟩:=hp;simp only[List.map_cons,fill]at hf;cases hcell:cellsOf (ρ y) with
  | none=>simp [hcell]at hf
  | some us =>
   simp only[hcell]at hf;split at hf
   ·rename_i hn
    obtain ⟨hn1,Hn⟩:=hn;have br:=X5 (hs x y Cq) hcell;have q6:(a.eval x).cells.size=n:=by rw[<-hn1,br.1];simp
    have Bj:off+(a.eval x).cells.size<=vs.size:=by rw[q6];have:=hc.1;simp at this;omega
    have tu:=cX off (a.eval x).cells.toList 0 vs (by simpa using Bj);have gi:Instr.fill place vs (((i,x)::r).map λ p=>(p.1,a.eval p.2))=Instr.fill place ((a.eval x).cells.zipIdx.foldl (λ cs (c,j)=>cs.setIfInBounds (off+j) c) vs) (r.map λ p=>(p.1,a.eval p.2)):=by
     simp only[List.map_cons,Instr.fill,Lo];rw[if_neg (by simp;omega)]
    rw[gi];refine cQ place hs r l (splice cs off us) dw _ hp3 ?_ hf;have hz:((a.eval x).cells.zipIdx.foldl (λ cs (c,j)=>cs.setIfInBounds (off+j) c) vs).toList=vs.toList.take off++(a.eval x).cells.toList++vs.toList.drop (off+(a.eval x).cells.toList.length):=by
     rw[<-Array.foldl_toList];simpa using tu
    rw[hz];unfold splice;refine ⟨?_,λ j c v hj hv => ?_⟩
    ·have:=hc.1;have:=br.1;simp at *;omega
    ·have ji:=hc.1
     have fj:=br.1;simp only[Array.length_toList]at ji fj;rw[List.getElem?_append]at hj hv;simp only[List.length_append,List.length_take,Array.length_toList]at hj hv;rw[List.getElem?_append]at hj hv;simp only[List.length_take,Array.length_toList]at hj hv;have iy:min off cs.length=off:=by omega
     have gf:min off vs.size=off:=by omega
     rw[iy]at hj;rw[gf]at hv;rw[<-fj]at hv;split at hj
     ·rename_i h1
      rw[if_pos h1]at hv;split at hj
      ·rename_i h2
       rw[if_pos h2]at hv;rw[List.getElem?_take]at hj hv;rw[if_pos h2]at hj hv;exact hc.2 j c v hj hv
      ·rename_i h2
       rw[if_neg h2]at hv;exact br.2 _ c v hj hv
     ·rename_i h1
      rw[if_neg h1]at hv;rw[List.getElem?_drop]at hj hv;exact hc.2 _ c v hj hv
   ·cases hf
 | [],_::_,_,_,_,hp,_,_=>by simp [RW]at hp
 | _::_,[],_,_,_,hp,_,_=>by simp [RW]at hp
theorem Vx (hm:BP B S w0 m) (hs:CN B S m ρ a.eval) {z:List AV} {dv:List (Nat × Nat × AP)} (h:A8 P num o.op (.build z dv)=true) {cs:List AV} (hf:fill z (dv.map λ p=>(p.1,p.2.1,ρ p.2.2))=some cs) :
  CS B S w0 P o a m (.val (.agg cs)):=by
 obtain ⟨t,ps,j8,h1,h2⟩:=Aej h;obtain ⟨i,v,hi,hz,he⟩:=iH h1;have key : ∃ al,P.built t (ps.map λ p=>(p.1,a.eval p.2)).toList=some al/\CL B S m cs al.toList:=by
  unfold aT at h2;unfold Program.built;split at h2
  ·rename_i fs hu
   split at h2
   ·rename_i places hp
    obtain ⟨al,h3,h4⟩:=cQ _ hs ps.toList dv z cs v.cells h2 (TD he) hf;refine ⟨al,?_,h4⟩;simp only[hi,hu,hz,hp,Array.toList_map];exact h3
   ·cases h2
  ·rename_i n e hu
   split at h2
   ·rename_i ie Kv
    obtain ⟨al,h3,h4⟩:=cQ _ hs ps.toList dv z cs v.cells h2 (TD he) hf;refine ⟨al,?_,h4⟩;simp only[hi,hu,hz,Kv,Array.toList_map];exact h3
   ·cases h2
  ·cases h2
 obtain ⟨al,h3,h4⟩:=key;refine D7 hm (u := .agg al) ?_ (.ca (by simpa using CA.agg cs al.toList h4));simp only[execOp,j8,Sem.run_bind];rw[run_build m.w t _ al h3];rfl
theorem oI (size:Nat) (hs:CN B S m ρ a.eval) : ∀ (ps:List (Nat × Operand)) (dv:List AP) (k:Nat) (es:List (List AV)) (vs:Array Value),RK k ps dv=true->dv.mapM (λ x=>cellsOf (ρ x))=some es->(∀ e∈es,e.length=size)->vs.size=(k+dv.length)*size ->
  ∃ al,Instr.fill (λ i=>some (i*size,size)) vs (ps.map λ p=>(p.1,a.eval p.2))=some al/\al.size=vs.size/\(∀ q,q<k*size->al[q]? = vs[q]?) /\ ∀ i cs,es[i]? = some cs -> ∀ j c,cs[j]? = some c -> ∃ u,al[(k+i)*size+j]? = some u/\CC B S m c u
 | [],[],k,es,vs,_,ix,_,_=>by
  simp at ix;subst ix;exact ⟨vs,rfl,rfl,λ_ _=>rfl,λ i cs hi=>by simp at hi⟩
 | (i,x)::r,y::l,k,es,vs,he,ix,hz,hv=>by
  simp only[RK,Bool.and_eq_true,beq_iff_eq]at he;obtain ⟨⟨rfl,h1⟩,h2⟩:=he;simp only[List.mapM_cons,Option.bind_eq_bind,Option.pure_def]at ix;cases hcell:cellsOf (ρ y) with
  | none=>simp [hcell]at ix
  | some us =>
   cases dh:l.mapM (λ x=>cellsOf (ρ x)) with
   | none=>simp [hcell,dh]at ix
   | some es' =>
    simp [hcell,dh]at ix;subst ix;have br:=X5 (hs x y h1) hcell;have Qn:us.length=size:=hz us (by simp);have q6:(a.eval x).cells.size=size:=by rw[<-Qn,br.1];simp
    simp only[List.length_cons]at hv;have hle:i*size+size<=vs.size:=by rw[hv,show i+(l.length+1)=i+1+l.length by omega,Nat.add_mul,Nat.add_mul];omega
    have tu:=cX (i*size) (a.eval x).cells.toList 0 vs (by simp [q6];omega);generalize Gf:(a.eval x).cells.zipIdx.foldl (λ cs (c,j)=>cs.setIfInBounds (i*size+j) c) vs=Dc;have ij:Dc.toList=vs.toList.take (i*size)++(a.eval x).cells.toList++vs.toList.drop (i*size+size):=by
     rw[<-Gf,<-Array.foldl_toList];simpa [q6] using tu
    have Cv:Dc.size=vs.size:=by
     have:=congrArg List.length ij
     simp [q6]at this;omega
    obtain ⟨al,h3,h4,h5,h6⟩:=oI size hs r l (i+1) es' Dc h2 dh (λ e he=>hz e (by simp [he])) (by rw[Cv,hv];congr 1;omega);refine ⟨al,?_,h4.trans Cv,λ q hq => ?_,λ i' cs m5 j c hj => ?_⟩
    ·simp only[List.map_cons,Instr.fill]
     rw[if_neg (by simp [q6];omega),Gf];exact h3
    ·rw[h5 q (by rw[Nat.add_mul];omega)]
     have:Dc.toList[q]? = vs.toList[q]? := by
      rw[ij,List.append_assoc,List.getElem?_append_left (by simp;omega),List.getElem?_take,if_pos hq]
     simpa using this
    ·cases i' with
     | zero =>
      obtain rfl:us=cs:=by simpa using m5
      obtain ⟨u,hu,u6⟩:=S4 br hj;have aj:j<size:=by rw[<-Qn];exact (zS hj).1
      refine ⟨u,?_,u6⟩;rw[Nat.add_zero,h5 _ (by rw[Nat.add_mul];omega)];have:Dc.toList[i*size+j]? = some u:=by
       rw[ij,List.append_assoc,List.getElem?_append_right (by simp;omega)];simp only[List.length_take,Array.length_toList,show min (i*size) vs.size=i*size by omega,show i*size+j-i*size=j by omega];rw[List.getElem?_append_left (by simp [q6];omega)];exact hu
      simpa using this
     | succ i' =>
      obtain ⟨u,hu,u6⟩:=h6 i' cs (by simpa using m5) j c hj;exact ⟨u,by rw[show i+(i'+1)=i+1+i' by omega];exact hu,u6⟩
 | [],_::_,_,_,_,he,_,_,_=>by simp [RK]at he
 | _::_,[],_,_,_,he,_,_,_=>by simp [RK]at he
theorem Y0 {s z n cap:Nat} {es:List (List AV)} {w':World} {g:Nat} {arr:Array Value} {e:TypeId} (hz:0<z) (hn:n<=cap) (hg:w'.heap[g]? = some (.cells arr e (0,0))) (hc:cap*z<=arr.size) :
  CV B S ⟨j4 m s (some g),m.own.put s ((m.own s).new ⟨z,es⟩),w'⟩ (.row s (m.own.g9 s) z 0 n) (.slice (some ⟨g,0,none⟩) n cap):=by
 refine .ca (.one (.row s (m.own.g9 s) z 0 n _ cap ?_ hz hn (λ_=>rfl) λ b' k6=>⟨?_,.inr ⟨g,arr,e,?_,by simp,hg,by simpa using hc⟩⟩))
 ·show _<AH.g9 _ s
  rw[KM];simp
 ·change AH.get _ s _=some b' at k6
  rw[FY,if_pos ⟨rfl,rfl⟩]at k6;obtain rfl:(⟨z,es⟩:DT)=b':=by simpa using k6
  rfl
 ·simp [j4]
theorem lZ (hm:BP B S w0 m) (s z n cap:Nat) (es:List (List AV)) (vs:Array Value) (e:TypeId) (cp:0<z) (hn:n<=cap) (q6:cap*z<=vs.size) (hz : ∀ x∈es,x.length=z)
  (hc : ∀ i cs,es[i]? = some cs -> ∀ j c,cs[j]? = some c -> ∃ u,vs[i*z+j]? = some u/\CC B S m c u)
  (h:(execOp a.eval o).run P m.w = .ok (.value (.slice (some ⟨m.w.heap.size,0,none⟩) n cap)) (m.w.alloc (.cells vs e))) :
  CS B S w0 P o a m (.new s ⟨z,es⟩ (λ t => .row s t z 0 n)):=by
 intro K Q hK;obtain ⟨h1,h2⟩:=UR hm s ⟨z,es⟩ vs e hz hc;exact JP h (hK _ ⟨j4 m s (some m.w.heap.size),m.own.put s ((m.own s).new ⟨z,es⟩),m.w.alloc (.cells vs e)⟩ rfl h1 h2 (Y0 cp hn (heap_alloc_new _ _) q6))
theorem Vw (hm:BP B S w0 m) (hs:CN B S m ρ a.eval) {s a7:Nat} {dv:List AP} (h:A8 P num o.op (.c7 s a7 dv)=true) {es:List (List AV)} (ix:dv.mapM (λ x=>cellsOf (ρ x))=some es) (hz : ∀ e∈es,e.length=a7) :
  CS B S w0 P o a m (.new s ⟨a7,es⟩ (λ t => .row s t a7 0 es.length)):=by
 obtain ⟨t,n,ps,e,i,j8,hu,hi,q6,h0,hn,Mh,ag,hzero⟩:=Aei h;have hlen:es.length=n:=by
  rw[hn];clear h ag hzero hn;induction dv generalizing es with
  | nil=>simp at ix;subst ix;rfl
  | cons y l ih =>
   simp only[List.mapM_cons,Option.bind_eq_bind,Option.pure_def]at ix;cases hcell:cellsOf (ρ y) with
   | none=>simp [hcell]at ix
   | some us =>
    cases dh:l.mapM (λ x=>cellsOf (ρ x)) with
    | none=>simp [hcell,dh]at ix
    | some es' =>
     simp [hcell,dh]at ix;subst ix;simp [ih dh (λ e he=>hz e (by simp [he]))]
 obtain ⟨zc,vu⟩ : ∃ zc:Array Value,(n*a7=0/\zc = #[])\/(¬ n*a7=0 /\ ∃ z,i.zero=some z/\zc=z.cells):=by
  by_cases k9:n*a7=0
  ·exact ⟨#[],.inl ⟨k9,rfl⟩⟩
  ·rcases hzero with wi|⟨z,ij,nq⟩
   ·simp [wi]at k9
   ·exact ⟨z.cells,.inr ⟨k9,z,ij,rfl⟩⟩
 have Gm:((Array.range (n*a7)).map (zc[· % zc.size]!)).size=n*a7:=by simp
 obtain ⟨al,h3,h4,_,h6⟩:=oI a7 hs ps.toList dv 0 es _ ag ix hz (by rw[Gm,hn];simp);have m7:(execOp a.eval o).run P m.w = .ok (.value (.slice (some ⟨m.w.heap.size,0,none⟩) n n)) (m.w.alloc (.cells al e)):=by
  simp only[execOp,j8,Instr.buildSlice,Sem.run_bind,run_underlying hu,Result.andThen_ok,sizeOf,typeInfo,run_program,hi,Sem.run_pure,q6];simp only[show ¬ (n*a7>2^24) from by omega,if_false,Sem.run_bind,Sem.run_pure,Result.andThen_ok];rcases vu with ⟨wi,rfl⟩|⟨wi,z,ij,rfl⟩
  ·simp only[wi,if_true,Sem.run_bind,Sem.run_pure,Result.andThen_ok,Array.toList_map]
   rw[wi]at h3;rw[h3];rfl
  ·simp only[wi,if_false,Sem.run_bind,Sem.run_pure,Result.andThen_ok,Array.toList_map,zeroValue,typeInfo,run_program,hi,ij]
   rw[h3];rfl
 rw[hlen];exact lZ hm s a7 n n es al e (Nat.pos_of_ne_zero h0) (Nat.le_refl _) (by rw[h4,Gm];exact Nat.le_refl _) hz (λ i cs m5 j c hj=>by simpa using h6 i cs m5 j c hj) m7
end
end Go.c5
namespace Go.c5
open Go.RowKit
section
variable {B:Nat} {S:Nat->Prop} {w0:World} {m:M}
variable {P:Program} {num:Nat->Nat} {o:Oper} {a:Act} {ρ:AP->AV}
theorem X4 {x:AV} {v:Value} (h:CV B S m x v) (h1:x ≠ .any) (h2 : ∀ cs,x ≠ .agg cs) (h3 : ∀ cs,x ≠ .g7 cs) (h4 : ∀ p f g cs,x ≠ .fn p f g cs:=by intros;simp):CC B S m x v:=by
 cases h with
 | any=>exact absurd rfl h1
 | g7 as=>exact absurd rfl (h3 as)
 | ca h=>cases h with
  | one h=>exact h
  | agg cs=>exact absurd rfl (h2 cs)
  | fn p f g cs=>exact absurd rfl (h4 p f g cs)
  | rj f g cs=>exact absurd rfl (h4 true f g cs)
theorem S6 {s t i j:Nat} {v:Value} (h:CV B S m (.ptr s t i j) v) : ∃ ad,v = .pointer (some ad)/\t<m.own.g9 s /\ ∀ b,m.own.get s t=some b -> ∃ g,m.ν s t=some g/\ad=⟨g,i*b.a7+j,none⟩:=by
 cases X4 h (by simp) (by simp) (by simp) with
 | rd h=>cases h
 | ptr s t i j ad ht h'=>exact ⟨ad,rfl,ht,h'⟩
theorem bH {cs:List AV} {v:Value} (h:CV B S m (.o7 cs) v) : ∃ (b o:Nat) (u:Nat->Value) (l:Bool),v = .pointer (some ⟨b,o,none⟩)/\(cs≠[]->safe B S m l b)/\(∀ j c,cs[j]? = some c->m.w.cell? ⟨b,o+j,none⟩=some (u j))/\(∀ j c,cs[j]? = some c->Rd m.w (safe B S m) c (u j)):=by
 cases X4 h (by simp) (by simp) (by simp) with
 | rd h=>cases h
 | o7 _ b o u l h1 h2 h3=>exact ⟨b,o,u,l,rfl,h1,h2,h3⟩
theorem RH {s t z off len:Nat} {v:Value} (h:CV B S m (.row s t z off len) v) : ∃ (ad:Option Addr) (cap:Nat),v = .slice ad len cap/\t<m.own.g9 s/\0<z/\len<=cap/\(0<len->ad.isSome=true) /\
  ∀ b,m.own.get s t=some b->b.a7=z/\((len=0/\cap=0) \/ ∃ g arr e,m.ν s t=some g/\ad=some ⟨g,off*z,none⟩/\m.w.heap[g]? = some (.cells arr e (0,0))/\(off+cap)*z<=arr.size):=by
 cases X4 h (by simp) (by simp) (by simp) with
 | rd h=>cases h
 | row s t z off len ad cap ht cp mi ha h'=>exact ⟨ad,cap,rfl,ht,cp,mi,ha,h'⟩
theorem X6 {l:Bool} {es:List (List AV)} {v:Value} (h:CV B S m (.sl l es) v):Rd m.w (safe B S m) (.sl l es) v:=by
 cases X4 h (by simp) (by simp) (by simp) with
 | rd h=>exact h
theorem Ux (hm:BP B S w0 m) (hs:CN B S m ρ a.eval) {x':AP} (h:A8 P num o.op (.su x')=true) {s t i j:Nat} (hx:ρ x' = .ptr s t i j):CS B S w0 P o a m (.val (.ptr s t i j)):=by
 obtain ⟨x,j8,h1⟩:=AeA h;have hc:=hx ▸ hs x x' h1;obtain ⟨ad,hv,_,_⟩:=S6 hc;refine D7 hm (u := .pointer (some ad)) ?_ (hv ▸ hc);simp [execOp,j8,hv]
theorem Wl (hm:BP B S w0 m) (hs:CN B S m ρ a.eval) {x':AP} {off:Nat} (h:A8 P num o.op (.a6 x' off)=true) {s t i j:Nat} (hx:ρ x' = .ptr s t i j):CS B S w0 P o a m (.val (.ptr s t i (j+off))):=by
 obtain ⟨ty,x,f,fs,fd,inf,j8,h1,hu,hf,ho,hi,q6⟩:=pI h;obtain ⟨ad,hv,ht,hb⟩:=S6 (hx ▸ hs x x' h1);refine D7 hm (u := .pointer (some (ad.add off))) ?_ (.ca (.one (.ptr s t i (j+off) _ ht λ b k6 => ?_)))
 ·simp [execOp,j8,hv,Instr.fieldAt,run_underlying hu,hf,Instr.sureAddr,fieldPlace,sizeOf,typeInfo,hi,q6,ho]
 ·obtain ⟨g,hg,rfl⟩:=hb b k6
  exact ⟨g,hg,by rw[G7];simp;omega⟩
theorem Wk (hm:BP B S w0 m) (hs:CN B S m ρ a.eval) {x':AP} {off:Nat} (h:A8 P num o.op (.a6 x' off)=true) {cs:List AV} (hx:ρ x' = .o7 cs):CS B S w0 P o a m (.val (.o7 (cs.drop off))):=by
 obtain ⟨ty,x,f,fs,fd,inf,j8,h1,hu,hf,ho,hi,q6⟩:=pI h;obtain ⟨b,ob,u,l,hv,hR,hc,hr⟩:=bH (hx ▸ hs x x' h1);refine D7 hm (u := .pointer (some ⟨b,ob+off,none⟩)) ?_ (.ca (.one (.o7 _ b (ob+off) (λ j=>u (off+j)) l (λ k9=>hR (λ e=>k9 (by simp [e]))) (λ j c hj => ?_) (λ j c hj => ?_))))
 ·simp [execOp,j8,hv,Instr.fieldAt,run_underlying hu,hf,Instr.sureAddr,fieldPlace,sizeOf,typeInfo,hi,q6,ho,G7]
 ·rw[List.getElem?_drop]at hj
  rw[Nat.add_assoc];exact hc _ c hj
 ·rw[List.getElem?_drop]at hj
  exact hr _ c hj
theorem V0 {agg:Bool} {cs:List AV} {v:AV} (h:H4 agg cs=some v) {vs:List Value} (hc:CL B S m cs vs):CV B S m v (if agg then .agg vs.toArray else vs.getD 0 undef)/\(agg=false->vs.length=1):=by
 unfold H4 at h;cases agg with
 | true =>
  obtain rfl:AV.agg cs=v:=by simpa using h
  exact ⟨.ca (.agg cs vs hc),by simp⟩
 | false =>
  simp only[Bool.false_eq_true,if_false]at h;split at h
  ·rename_i c
   obtain rfl:c=v:=by simpa using h
   obtain ⟨u,hu,u6⟩:=S4 hc (j:=0) (c:=c) rfl;refine ⟨?_,λ_=>by rw[<-hc.1];rfl⟩;simp only[Bool.false_eq_true,if_false,List.getD,hu,Option.getD_some];exact .ca (.one u6)
  ·cases h
theorem sW (t:TypeId) (agg:Bool) (inf:TypeInfo) (fp : ∀ w,(isAgg t).run P w = .ok agg w) (hi:P.info? t=some inf) (vs:List Value) (off n:Nat) (hn:inf.size=n) (hle:off+n<=vs.length) (h1:agg=false->n=1) (w:World) :
  (Go.part t vs.toArray off).run P w = .ok (if agg then .agg ((vs.drop off).take n).toArray else ((vs.drop off).take n).getD 0 undef) w:=by
 unfold Go.part;rw[Sem.run_bind,fp w];cases agg with
 | true=>simp [sizeOf,typeInfo,hi,hn,List.extract_eq_take_drop]
 | false =>
  have k7:off<vs.length:=by have:=h1 rfl;omega
  simp [k7,h1 rfl]
theorem Wm (hm:BP B S w0 m) (hs:CN B S m ρ a.eval) {x':AP} {off n:Nat} {agg:Bool} (h:A8 P num o.op (.nc x' off n agg)=true) {cs ds:List AV} {v:AV} (hx:ρ x' = .agg cs) (hp:part cs off n=some ds) (hv:H4 agg ds=some v) :
  CS B S w0 P o a m (.val v):=by
 obtain ⟨ty,x,f,fs,fd,inf,j8,h1,hu,hf,ho,hi,q6,fp,h0⟩:=Aes h;obtain ⟨vs,w7,m8⟩:=U0 (hx ▸ hs x x' h1);unfold c5.part at hp;split at hp
 ·rename_i hle
  obtain rfl:(cs.drop off).take n=ds:=by simpa using hp
  obtain ⟨s8,fu⟩:=V0 hv (kF m8 off n);have hl:=m8.1;have ti:agg=false->n=1:=λ e=>by have:=fu e;simp at this;omega
  refine D7 hm ?_ s8;simp only[execOp,j8,Sem.run_bind,Instr.field,run_underlying hu,Result.andThen_ok,hf,w7,asAgg,Sem.run_pure,ho];rw[sW fd.type agg inf fp hi vs off n q6 (by omega) ti];rfl
 ·cases hp
theorem Wr (hm:BP B S w0 m) (hs:CN B S m ρ a.eval) {len a7:Nat} {agg:Bool} {x' i':AP} (h:A8 P num o.op (.idx len a7 agg x' i')=true) {k:IntKind} {n:Int} {cs ds:List AV} {v:AV} (m5:ρ i' = .int k n) (hx:ρ x' = .agg cs) (h0:0<=n) (hn:n<len)
  (hp:part cs (n.toNat*a7) a7=some ds) (hv:H4 agg ds=some v):CS B S w0 P o a m (.val v):=by
 obtain ⟨ty,x,i,e,inf,j8,h1,h2,hu,hi,q6,fp⟩:=Aet h;obtain ⟨vs,w7,m8⟩:=U0 (hx ▸ hs x x' h1);have rn:=GW (m5 ▸ hs i i' h2);unfold c5.part at hp;split at hp
 ·rename_i hle
  obtain rfl:(cs.drop (n.toNat*a7)).take a7=ds:=by simpa using hp
  obtain ⟨s8,fu⟩:=V0 hv (kF m8 (n.toNat*a7) a7);have hl:=m8.1;have ti:agg=false->a7=1:=λ e=>by have:=fu e;simp at this;omega
  refine D7 hm ?_ s8;simp only[execOp,j8,Sem.run_bind,Instr.index,rn,asIntOf,Sem.run_pure,run_underlying hu,Result.andThen_ok,w7];rw[if_pos ⟨h0,hn⟩];simp only[Sem.run_bind,sizeOf,typeInfo,run_program,hi,Sem.run_pure,Result.andThen_ok,q6];rw[sW e agg inf fp hi vs (n.toNat*a7) a7 q6 (by omega) ti];rfl
 ·cases hp
theorem Wn (hm:BP B S w0 m) (hs:CN B S m ρ a.eval) {len a7:Nat} {x' i':AP} (h:A8 P num o.op (.a5 (some len) a7 x' i')=true) {k:IntKind} {n:Int} {s t i0 j:Nat} (m5:ρ i' = .int k n) (hx:ρ x' = .ptr s t i0 j) (h0:0<=n) (hn:n<len) :
  CS B S w0 P o a m (.val (.ptr s t i0 (j+n.toNat*a7))):=by
 obtain ⟨ty,x,i,e,inf,j8,h1,h2,hi,q6,z7⟩:=YR h;rcases z7 with ⟨kv,hl,hu,k7⟩|⟨hl,_⟩
 ·obtain rfl:len=kv:=by simpa using hl
  obtain ⟨ad,hv,ht,hb⟩:=S6 (hx ▸ hs x x' h1);have rn:=GW (m5 ▸ hs i i' h2);refine D7 hm (u := .pointer (some (ad.add (n.toNat*a7)))) ?_ (.ca (.one (.ptr s t i0 (j+n.toNat*a7) _ ht λ b k6 => ?_)))
  ·simp [execOp,j8,hv,rn,Instr.indexAt,asIntOf,run_underlying hu,Instr.sureAddr,sizeOf,typeInfo,hi,q6,h0,hn]
  ·obtain ⟨g,hg,rfl⟩:=hb b k6
   exact ⟨g,hg,by rw[G7];simp;omega⟩
 ·cases hl
theorem Wo (hm:BP B S w0 m) (hs:CN B S m ρ a.eval) {len a7:Nat} {x' i':AP} (h:A8 P num o.op (.a5 (some len) a7 x' i')=true) {k:IntKind} {n:Int} {cs:List AV} (m5:ρ i' = .int k n) (hx:ρ x' = .o7 cs) (h0:0<=n) (hn:n<len) :
  CS B S w0 P o a m (.val (.o7 (cs.drop (n.toNat*a7)))):=by
 obtain ⟨ty,x,i,e,inf,j8,h1,h2,hi,q6,z7⟩:=YR h;rcases z7 with ⟨kv,hl,hu,k7⟩|⟨hl,_⟩
 ·obtain rfl:len=kv:=by simpa using hl
  obtain ⟨b,ob,u,l,hv,hR,hc,hr⟩:=bH (hx ▸ hs x x' h1);have rn:=GW (m5 ▸ hs i i' h2);refine D7 hm (u := .pointer (some ⟨b,ob+n.toNat*a7,none⟩)) ?_ (.ca (.one (.o7 _ b (ob+n.toNat*a7) (λ j=>u (n.toNat*a7+j)) l (λ k9=>hR (λ e=>k9 (by simp [e]))) (λ j c hj => ?_) (λ j c hj => ?_))))
  ·simp [execOp,j8,hv,rn,Instr.indexAt,asIntOf,run_underlying hu,Instr.sureAddr,sizeOf,typeInfo,hi,q6,h0,hn,G7]
  ·rw[List.getElem?_drop]at hj
   rw[Nat.add_assoc];exact hc _ c hj
  ·rw[List.getElem?_drop]at hj
   exact hr _ c hj
 ·cases hl
theorem sU (ty e:TypeId) (inf:TypeInfo) (hu:P.underlying ty=some (.slice e)) (hi:P.info? e=some inf) (ad:Addr) (len cap:Nat) (k:IntKind) (n:Int) (h0:0<=n) (hn:n<len) (w:World) :
  (Instr.indexAt ty (.slice (some ad) len cap) (.int k n)).run P w = .ok (.pointer (some (ad.add (n.toNat*inf.size)))) w:=by
 simp [Instr.indexAt,asIntOf,run_underlying hu,sizeOf,typeInfo,hi,h0,hn]
theorem Wp (hm:BP B S w0 m) (hs:CN B S m ρ a.eval) {a7:Nat} {x' i':AP} (h:A8 P num o.op (.a5 none a7 x' i')=true) {k:IntKind} {n:Int} {s t z off len:Nat} (m5:ρ i' = .int k n) (hx:ρ x' = .row s t z off len) (h0:0<=n) (hn:n<len) (hz:z=a7) :
  CS B S w0 P o a m (.val (.ptr s t (off+n.toNat) 0)):=by
 obtain ⟨ty,x,i,e,inf,j8,h1,h2,hi,q6,z7⟩:=YR h;rcases z7 with ⟨_,hl,_⟩|⟨_,hu,_⟩
 ·cases hl
 ·obtain ⟨ad,cap,hv,ht,cp,mi,ha,hb⟩:=RH (hx ▸ hs x x' h1)
  have rn:=GW (m5 ▸ hs i i' h2);obtain ⟨Cc,rfl⟩:=Option.isSome_iff_exists.1 (ha (by omega));refine D7 hm (u := .pointer (some (Cc.add (n.toNat*a7)))) ?_ (.ca (.one (.ptr s t (off+n.toNat) 0 _ ht λ b k6 => ?_)))
  ·simp only[execOp,j8,hv,rn,Sem.run_bind]
   rw[sU ty e inf hu hi Cc len cap k n h0 hn,q6];rfl
  ·obtain ⟨iv,z7⟩:=hb b k6
   rcases z7 with ⟨ka,_⟩|⟨g,arr,e',hg,jf,_,_⟩
   ·omega
   ·obtain rfl:Cc=⟨g,off*z,none⟩:=by simpa using jf
    exact ⟨g,hg,by rw[G7,iv,<-hz,Nat.add_mul];rfl⟩
theorem Wq (hm:BP B S w0 m) (hs:CN B S m ρ a.eval) {a7:Nat} {x' i':AP} (h:A8 P num o.op (.a5 none a7 x' i')=true) {k:IntKind} {n:Int} {l:Bool} {es:List (List AV)} {cs:List AV} (m5:ρ i' = .int k n) (hx:ρ x' = .sl l es) (h0:0<=n) (hn:es[n.toNat]? = some cs) (hz:cs.length=a7) :
  CS B S w0 P o a m (.val (.o7 cs)):=by
 obtain ⟨ty,x,i,e,inf,j8,h1,h2,hi,q6,z7⟩:=YR h;rcases z7 with ⟨_,hl,_⟩|⟨_,hu,_⟩
 ·cases hl
 ·have lv:=X6 (hx ▸ hs x x' h1)
  have rn:=GW (m5 ▸ hs i i' h2);have k7:n.toNat<es.length:=(zS hn).1;generalize w7:a.eval x=v at lv;cases lv with
  | jc=>simp at k7
  | sl _ _ b ob q7 cap u k9 hp hR v9 du hc hr =>
   have Gl:q7=a7:=by
    rw[<-hz];exact (du cs (zM hn)).symm
   subst Gl;refine D7 hm (u := .pointer (some ⟨b,ob+n.toNat*q7,none⟩)) ?_ (.ca (.one (.o7 _ b (ob+n.toNat*q7) (u n.toNat) l (λ_=>hR) (λ j c hj => ?_) (λ j c hj=>hr _ cs hn j c hj))))
   ·simp only[execOp,j8,w7,rn,Sem.run_bind]
    rw[sU ty e inf hu hi ⟨b,ob,none⟩ es.length cap k n h0 (by omega),q6,G7];rfl
   ·rw[Nat.add_assoc]
    exact hc _ cs hn j c hj
end
end Go.c5

namespace Go.c5
open Go.RowKit
section
variable {B:Nat} {S:Nat->Prop} {w0:World} {m:M}
variable {P:Program} {num:Nat->Nat} {o:Oper} {a:Act} {ρ:AP->AV}
theorem fY (t:TypeId) (agg:Bool) (n:Nat) (fp : ∀ w,(isAgg t).run P w = .ok agg w) (hn:if agg then ∃ i,P.info? t=some i/\i.size=n else n=1) (ad:Addr) (vs:List Value) (hl:vs.length=n) (w:World)
  (hc : ∀ q v,vs[q]? = some v->w.cell? (ad.add q)=some v):(Instr.loadAt t (.pointer (some ad))).run P w = .ok (if agg then .agg vs.toArray else vs.getD 0 undef) w:=by
 unfold Instr.loadAt loadVar;simp only[Instr.sureAddr,Sem.run_bind,Sem.run_pure,Result.andThen_ok,fp w];cases agg with
 | true =>
  simp only[if_true]at hn;obtain ⟨i,hi,hs⟩:=hn;have:=run_loadCells_list (P:=P) w ad vs hc
  simp [sizeOf,typeInfo,hi,hs,<-hl,this]
 | false =>
  simp only[Bool.false_eq_true,if_false]at hn ⊢;have k7:0<vs.length:=by omega
  have h0:=hc 0 vs[0] (zE k7);have wi:w.cell? ad=some vs[0]:=by simpa [Addr.add] using h0
  simp [load,Sem.run,wi,k7]
theorem rL (hm:BP B S w0 m) {s t i j n:Nat} {cs:List AV} (h:m.own.pc s t i j n=some cs) : ∃ b g arr e,m.own.get s t=some b/\(0<n->m.ν s t=some g/\m.w.heap[g]? = some (.cells arr e (0,0))) /\
  ∃ vs:List Value,vs.length=n/\CL B S m cs vs /\ ∀ q v,vs[q]? = some v->arr[i*b.a7+j+q]? = some v:=by
 unfold AH.pc at h;cases hb:m.own.get s t with
 | none=>simp [hb]at h
 | some b =>
  simp only[hb]at h;cases he:b.es[i]? with
  | none=>simp [he]at h
  | some ds =>
   simp only[he,part]at h;split at h
   ·rename_i hle
    obtain rfl:(ds.drop j).take n=cs:=by simpa using h
    obtain ⟨hz,bn⟩:=hm.e8 s t b hb;cases hν:m.ν s t with
    | none =>
     rw[hν]at bn;rw[bn]at he;simp at he
    | some g =>
     rw[hν]at bn;obtain ⟨hB,arr,e,hh,u6⟩:=bn;have q6 : ∀ q,q<n -> ∃ u,arr[i*b.a7+j+q]? = some u:=λ q hq=>by
      have k7:j+q<ds.length:=by omega
      obtain ⟨u,hu,_⟩:=u6 i ds he (j+q) ds[j+q] (zE k7);exact ⟨u,by rw[<-hu];congr 1;omega⟩
     refine ⟨b,g,arr,e,rfl,λ_=>⟨rfl,hh⟩,(arr.toList.drop (i*b.a7+j)).take n,?_,⟨?_,?_⟩,?_⟩
     ·rw[List.length_take,List.length_drop]
      rcases Nat.eq_zero_or_pos n with h0|h0
      ·omega
      ·obtain ⟨u,hu⟩:=q6 (n-1) (by omega)
       have:=(Array.getElem?_eq_some_iff.1 hu).1
       simp;omega
     ·rw[List.length_take,List.length_take,List.length_drop,List.length_drop]
      rcases Nat.eq_zero_or_pos n with h0|h0
      ·omega
      ·obtain ⟨u,hu⟩:=q6 (n-1) (by omega)
       have:=(Array.getElem?_eq_some_iff.1 hu).1
       simp;omega
     ·intro q c v hq hv
      rw[List.getElem?_take]at hq hv;split at hq
      ·rename_i Fo
       rw[if_pos Fo]at hv;rw[List.getElem?_drop]at hq hv;obtain ⟨u,hu,hc⟩:=u6 i ds he (j+q) c hq;have:some u=some v:=by
        rw[<-hu,<-hv];simp only[Array.getElem?_toList];congr 1;omega
       obtain rfl:u=v:=by simpa using this
       exact hc
      ·cases hq
     ·intro q v hv
      rw[List.getElem?_take]at hv;split at hv
      ·rw[List.getElem?_drop]at hv
       simpa using hv
      ·cases hv
   ·cases h
theorem XY {w:World} {g p:Nat} {arr:Array Value} {e:TypeId} (h:w.heap[g]? = some (.cells arr e (0,0))):w.cell? ⟨g,p,none⟩=arr[p]? := by
 simp [World.cell?,h]
theorem Ws (hm:BP B S w0 m) (hs:CN B S m ρ a.eval) {agg:Bool} {n:Nat} {x':AP} (h:A8 P num o.op (.ld agg n x')=true) {s t i j:Nat} {cs:List AV} {v:AV} (hx:ρ x' = .ptr s t i j) (hl:m.own.pc s t i j n=some cs) (hv:H4 agg cs=some v) :
  CS B S w0 P o a m (.val v):=by
 obtain ⟨ty,x,j8,h1,fp,hn⟩:=pJ h;obtain ⟨ad,w7,ht,hb⟩:=S6 (hx ▸ hs x x' h1);obtain ⟨b,g,arr,e,l7,hg,vs,ju,m8,gj⟩:=rL hm hl;obtain ⟨s8,_⟩:=V0 hv m8;refine D7 hm ?_ s8;simp only[execOp,j8,Sem.run_bind,w7];rw[fY ty agg n fp hn ad vs ju m.w (λ q u hq => ?_)]
 ·rfl
 ·have k7:q<vs.length:=(zS hq).1
  obtain ⟨xg,jg⟩:=hg (by omega);obtain ⟨g',ct,rfl⟩:=hb b l7;obtain rfl:g=g':=by rw[xg]at ct;simpa using ct
  rw[G7,XY jg];exact gj q u hq
theorem lV (hm:BP B S w0 m) (hs:CN B S m ρ a.eval) {agg:Bool} {n:Nat} {x':AP} (h:A8 P num o.op (.ld agg n x')=true) {cs ds:List AV} {v:AV} (hx:ρ x' = .o7 cs) (hl:part cs 0 n=some ds) (hv:H4 agg ds=some v) :
  CS B S w0 P o a m (.val v):=by
 obtain ⟨ty,x,j8,h1,fp,hn⟩:=pJ h;obtain ⟨b,ob,u,l,w7,hR,hc,hr⟩:=bH (hx ▸ hs x x' h1);unfold c5.part at hl;split at hl
 ·rename_i hle
  obtain rfl:(cs.drop 0).take n=ds:=by simpa using hl
  have m8:CL B S m ((cs.drop 0).take n) ((List.range n).map u):=by
   refine ⟨by simp;omega,λ q c v' hq nn => ?_⟩;simp only[List.drop_zero,List.getElem?_take]at hq;split at hq
   ·rename_i Fo
    simp [Fo]at nn;subst nn;exact .rd (hr q c hq)
   ·cases hq
  obtain ⟨s8,_⟩:=V0 hv m8;refine D7 hm ?_ s8;simp only[execOp,j8,Sem.run_bind,w7];rw[fY ty agg n fp hn ⟨b,ob,none⟩ ((List.range n).map u) (by simp) m.w (λ q w' hq => ?_)]
  ·rfl
  ·have Fo:q<n:=by have:=(zS hq).1;simpa using this
   simp [Fo]at hq;subst hq;rw[G7];exact hc q cs[q] (zE (by omega))
 ·cases hl
theorem ZV {α:Type} (l:List α) (off:Nat) (vs:List α) (h:off+vs.length<=l.length) (q:Nat):(l.take off++vs++l.drop (off+vs.length))[q]? = if q<off then l[q]? else if q<off+vs.length then vs[q-off]? else l[q]? := by
 rw[List.append_assoc];by_cases h1:q<off
 ·rw[if_pos h1,List.getElem?_append_left (by simp;omega),List.getElem?_take,if_pos h1]
 ·rw[if_neg h1,List.getElem?_append_right (by simp;omega)]
  have e1:(l.take off).length=off:=by simp;omega
  rw[e1];by_cases h2:q<off+vs.length
  ·rw[if_pos h2,List.getElem?_append_left (by omega)]
  ·rw[if_neg h2,List.getElem?_append_right (by omega),List.getElem?_drop]
   congr 1;omega
theorem aO (hm:BP B S w0 m) {g:Nat} (hB:B<=g) (arr:Array Value):Below B w0 (m.w.setRow g arr) :=
 hm.below.trans ⟨rfl,rfl,rfl,by simp,λ k hk=>setRow_other _ _ _ _ (by omega)⟩
theorem mA (hm:BP B S w0 m) (hs:CN B S m ρ a.eval) {n:Nat} {x' v':AP} (h:A8 P num o.op (.st n x' v')=true) {s t i j:Nat} {vs:List AV} {l8:AH} (hx:ρ x' = .ptr s t i j) (hv:cellsOf (ρ v')=some vs) (hn:vs.length=n) (j6:m.own.kz s t i j vs=some l8) :
  CS B S w0 P o a m (.bu (.g7 []) l8):=by
 obtain ⟨ty,x,v,inf,j8,h1,h2,hi,q6⟩:=AeD h;obtain ⟨ad,w7,ht,hb⟩:=S6 (hx ▸ hs x x' h1);have m8:=X5 (hs v v' h2) hv;unfold AH.kz at j6;cases l7:m.own.get s t with
 | none=>simp [l7]at j6
 | some b =>
  simp only[l7]at j6;cases he:b.es[i]? with
  | none=>simp [he]at j6
  | some cs =>
   simp only[he]at j6;split at j6
   ·rename_i hle
    obtain rfl:=Option.some.inj j6;obtain ⟨hz,bn⟩:=hm.e8 s t b l7;obtain ⟨g,hg,rfl⟩:=hb b l7;rw[hg]at bn;obtain ⟨hB,arr,e,hh,u6⟩:=bn;have tn:cs.length=b.a7:=hz cs (zM he);have hlen:(a.eval v).cells.toList.length=vs.length:=m8.1.symm;have u7:i<b.es.length:=(zS he).1;have Bj:i*b.a7+j+vs.length<=arr.size:=by
     rcases Nat.eq_zero_or_pos vs.length with h0|h0
     ·rcases Nat.eq_zero_or_pos j with Pr|Pr
      ·rw[h0,Pr]
       rcases Nat.eq_zero_or_pos i with qa|qa
       ·rw[qa];omega
       ·rcases Nat.eq_zero_or_pos b.a7 with cp|cp
        ·rw[cp];omega
        ·have Cn:i-1<b.es.length:=by omega
         have ji:(b.es[i-1]).length=b.a7:=hz _ (List.getElem_mem Cn);obtain ⟨u,hu,_⟩:=u6 (i-1) _ (zE Cn) (b.a7-1) _ (zE (by omega));have:=(Array.getElem?_eq_some_iff.1 hu).1
         have e1:(i-1)*b.a7+b.a7=i*b.a7:=by
          rw[<-Nat.succ_mul];congr 1;omega
         omega
      ·obtain ⟨u,hu,_⟩:=u6 i cs he (j-1) cs[j-1] (zE (by omega))
       have:=(Array.getElem?_eq_some_iff.1 hu).1
       omega
     ·obtain ⟨u,hu,_⟩:=u6 i cs he (j+vs.length-1) cs[j+vs.length-1] (zE (by omega))
      have:=(Array.getElem?_eq_some_iff.1 hu).1
      omega
    have fu:=Tp m8;have uo:=run_storeCells_at (P:=P) g (i*b.a7+j) e (a.eval v).cells.toList 0 arr m.w hh (by rw[hlen];omega) fu;generalize ga:(arr.toList.take (i*b.a7+j+0)++(a.eval v).cells.toList++arr.toList.drop (i*b.a7+j+0+(a.eval v).cells.toList.length)).toArray=o0 at uo;have yu : ∀ p,o0[p]? = if p<i*b.a7+j then arr[p]? else if p<i*b.a7+j+vs.length then (a.eval v).cells.toList[p-(i*b.a7+j)]? else arr[p]? := λ p=>by
     rw[<-ga];simp only[Nat.add_zero,List.getElem?_toArray];rw[ZV _ _ _ (by rw[hlen];simpa using Bj),hlen];simp only[Array.getElem?_toList]
    have jb:o0.size=arr.size:=by
     rw[<-ga];simp [hlen];have:=hlen
     simp at this;omega
    obtain ⟨k1,k2⟩:=uS hm s t b ⟨b.a7,b.es.set i (splice cs j vs)⟩ l7 g hg arr o0 e hh rfl (λ y hy=>by
      rcases List.mem_or_eq_of_mem_set hy with hy|hy
      ·exact hz y hy
      ·rw[hy,<-tn];simp [splice];omega) jb
     (λ i' dw m5 q c hq=>by
      show ∃ u,o0[i'*b.a7+q]? = some u/\_;change (b.es.set i (splice cs j vs))[i']? = some dw at m5;by_cases Pp:i'=i
      ·subst Pp
       rw[List.getElem?_set_self u7]at m5;obtain rfl:splice cs j vs=dw:=by simpa using m5
       unfold splice at hq;rw[ZV _ _ _ hle]at hq;rw[yu];by_cases xj:q<j
       ·rw[if_pos xj]at hq
        rw[if_pos (by omega)];exact u6 i' cs he q c hq
       ·rw[if_neg xj]at hq
        rw[if_neg (by omega)];by_cases Ct:q<j+vs.length
        ·rw[if_pos Ct]at hq
         rw[if_pos (by omega)];obtain ⟨u,hu,br⟩:=S4 m8 hq;exact ⟨u,by rw[<-hu];congr 1;omega,br⟩
        ·rw[if_neg Ct]at hq
         rw[if_neg (by omega)];exact u6 i' cs he q c hq
      ·rw[List.getElem?_set_ne (by omega)]at m5
       have vn:q<b.a7:=by
        rw[<-hz dw (zM m5)];exact (zS hq).1
       obtain ⟨u,hu,br⟩:=u6 i' dw m5 q c hq;refine ⟨u,?_,br⟩;rw[yu,<-hu];rcases Nat.lt_or_gt_of_ne Pp with k7|qo
       ·have:(i'+1)*b.a7<=i*b.a7:=Nat.mul_le_mul_right _ k7
        rw[Nat.succ_mul]at this;rw[if_pos (by omega)]
       ·have:(i+1)*b.a7<=i'*b.a7:=Nat.mul_le_mul_right _ qo
        rw[Nat.succ_mul]at this;rw[if_neg (by omega),if_neg (by omega)])
     (m.w.setRow g o0) (aO hm hB o0) (by simp) (λ k hk=>setRow_other _ _ _ _ hk) (setRow_heap _ _ _ _ _ _ hh)
    intro K Q hK;refine Ahd (w':=m.w.setRow g o0) ?_ (hK undef ⟨m.ν,_,m.w.setRow g o0⟩ rfl k1 k2 qH);have Mm:(a.eval v).cells.size=inf.size:=by rw[q6,<-hn,<-hlen];simp
    simp only[execOp,j8,w7,Instr.storeAt,storeVar,Instr.sureAddr,Sem.run_bind,Sem.run_pure,Result.andThen_ok,sizeOf,typeInfo,run_program,hi];rw[if_neg (by simpa using Mm)];simp only[Sem.run_bind,Sem.run_pure,Result.andThen_ok,uo]
   ·cases j6
theorem Ur (hm:BP B S w0 m) (hs:CN B S m ρ a.eval) {s a7 bytes:Nat} {zero:List AV} {l' c':AP} (h:A8 P num o.op (.mk s a7 bytes zero l' c')=true) {kl kc:IntKind} {l c:Int} (hl:ρ l' = .int kl l) (hc:ρ c' = .int kc c) (h0:0<=l) (mi:l<=c) (hb:c*bytes<=DP) (Ad:c<=9223372036854775807) (hz:zero.length=a7) :
  CS B S w0 P o a m (.new s ⟨a7,List.replicate l.toNat zero⟩ (λ t => .row s t a7 0 l.toNat)):=by
 obtain ⟨ty,lx,cx,e,inf,z,j8,h1,h2,hu,hi,q6,ln,cp,du,k9⟩:=Aew h;have el:=GW (hl ▸ hs lx l' h1);have ec:=GW (hc ▸ hs cx c' h2);have m8:CL B S m zero z.cells.toList:=TD du;have hzs:z.cells.size=a7:=by rw[<-hz,m8.1];simp
 refine lZ hm s a7 l.toNat c.toNat _ (madeCells z.cells (c.toNat*inf.size)) e (Nat.pos_of_ne_zero k9) (by omega) (by rw[size_madeCells,q6];exact Nat.le_refl _) (λ x hx=>by rw[(List.mem_replicate.1 hx).2,hz]) (λ i cs m5 j c1 hj => ?_) ?_
 ·rw[List.getElem?_replicate]at m5
  split at m5
  ·rename_i u7
   obtain rfl:zero=cs:=by simpa using m5
   obtain ⟨u,eo,br⟩:=S4 m8 hj;refine ⟨u,?_,br⟩;have aj:j<a7:=by rw[<-hz];exact (zS hj).1
   have k7:i*a7+j<c.toNat*inf.size:=by
    rw[q6];have h3:(i+1)*a7<=c.toNat*a7:=Nat.mul_le_mul_right _ (by omega);rw[Nat.succ_mul]at h3;omega
   have Lg:(i*a7+j)%z.cells.size=j:=by rw[hzs,Nat.add_comm,Nat.add_mul_mod_self_right,Nat.mod_eq_of_lt aj]
   have Cx:z.cells[j]? = some u:=by simpa using eo
   have hjs:j<z.cells.size:=(Array.getElem?_eq_some_iff.1 Cx).1;have ig:z.cells[j]=u:=(Array.getElem?_eq_some_iff.1 Cx).2;simp [madeCells,k7,Lg,hjs,ig]
  ·cases m5
 ·have:=run_make (P:=P) m.w ty e inf z hu hi cp kl kc l c h0 mi (by rw[ln,Int.mul_comm];simp only[DP]at hb;omega) Ad
  simp only[execOp,j8,el,ec,Sem.run_bind,this,Result.andThen_ok,Sem.run_pure]
theorem Wj (hm:BP B S w0 m) (hs:CN B S m ρ a.eval) {x':AP} {i:Nat} (h:A8 P num o.op (.ext x' i)=true) {vs:List AV} {v:AV} (hx:ρ x' = .g7 vs) (hv:vs[i]? = some v):CS B S w0 P o a m (.val v):=by
 obtain ⟨x,j8,h1⟩:=Aer h;obtain ⟨us,w7,hl,hc⟩:=bJ (hx ▸ hs x x' h1);have k7:i<us.length:=by rw[<-hl];exact (zS hv).1
 refine D7 hm (u:=us[i]) ?_ (.ca (hc i v us[i] hv (zE k7)));simp [execOp,j8,w7,Instr.extract,k7]
theorem Wt (hm:BP B S w0 m) (hs:CN B S m ρ a.eval) {x':AP} (h:A8 P num o.op (.len x')=true) {n:Nat} (hx:lenOf (ρ x')=some n):CS B S w0 P o a m (.val (.int .i64 n)):=by
 obtain ⟨x,t,e,j8,h1,hu⟩:=Aev h;have s8:=hs x x' h1;obtain ⟨ad,cap,w7⟩ : ∃ ad cap,a.eval x = .slice ad n cap:=by
  generalize ρ x'=av at *;cases av with
  | sl l es =>
   have hr:=X6 s8;simp only[lenOf,Option.some.injEq]at hx;subst hx;generalize a.eval x=v at *;cases hr with
   | jc=>exact ⟨_,_,rfl⟩
   | sl=>exact ⟨_,_,rfl⟩
  | row s t z off len =>
   obtain ⟨ad,cap,hv,_⟩:=RH s8;simp only[lenOf,Option.some.injEq]at hx;subst hx;exact ⟨ad,cap,hv⟩
  | nil =>
   simp only[lenOf,Option.some.injEq]at hx;subst hx;exact ⟨_,_,PE s8⟩
  | _=>simp [lenOf]at hx
 refine D7 hm (u := .int .i64 n) ?_ (LB _ _);simp [execOp,j8,resolve,invoke,builtin,w7,Builtin.len_,run_underlying hu,goInt]
theorem Wf (hm:BP B S w0 m) (hs:CN B S m ρ a.eval) {x':AP} (h:A8 P num o.op (.er x')=true) (hx:ρ x' = .nil):CS B S w0 P o a m (.val (.int .i64 0)):=by
 obtain ⟨x,t,e,j8,h1,hu⟩:=Aeo h;have w7:=PE (hx ▸ hs x x' h1);refine D7 hm (u := .int .i64 0) ?_ (LB _ _);simp [execOp,j8,resolve,invoke,builtin,w7,Builtin.cap_,run_underlying hu,goInt]
theorem RL (hs:CN B S m ρ a.eval) : ∀ {xs:List Operand} {ys:List AP},ED xs ys=true->xs.length=ys.length /\ ∀ (j:Nat) (x:Operand) (y:AP),xs[j]? = some x->ys[j]? = some y->CV B S m (ρ y) (a.eval x)
 | [],[],_=>⟨rfl,λ j x y h=>by simp at h⟩
 | x::r,y::l,h=>by
  simp only[ED,Bool.and_eq_true]at h;obtain ⟨ih1,nr⟩:=RL hs h.2;refine ⟨by simp [ih1],λ j x' y' hx hy => ?_⟩;cases j with
  | zero=>simp at hx hy;subst hx hy;exact hs _ _ h.1
  | succ j=>exact nr j x' y' (by simpa using hx) (by simpa using hy)
 | [],_::_,h=>by simp [ED]at h
 | _::_,[],h=>by simp [ED]at h
theorem sV (mx:Bool) (hs:CN B S m ρ a.eval) (w:World) : ∀ (xs:List Operand) (ys:List AP) (v:AV) (u:Value) (r:AV),ED xs ys=true->CV B S m v u->J4 mx v (ys.map ρ)=some r->(∃ k n,v = .int k n) -> ∃ k n,r = .int k n /\
  ((xs.map a.eval).foldlM (if mx then Builtin.max2 else Builtin.min2) u).run P w = .ok (.int k n) w
 | [],[],v,u,r,_,hc,hm,⟨k,n,hv⟩=>by
  simp only[List.map_nil,J4,Option.some.injEq]at hm;subst hm hv;obtain rfl:=GW hc;exact ⟨k,n,rfl,by simp⟩
 | x::xr,y::yr,v,u,r,he,hc,hm,⟨k,n,hv⟩=>by
  simp only[ED,Bool.and_eq_true]at he;simp only[List.map_cons,J4]at hm;have hx:=hs x y he.1;subst hv;obtain rfl:=GW hc;cases hy:ρ y with
  | int k' n' =>
   rw[hy]at hx hm;have hxe:=GW hx;simp only[PN]at hm;obtain ⟨k2,n2,rfl,h2⟩:=sV mx hs w xr yr _ (.int k (if mx then (if n'>n then n' else n) else (if n'<n then n' else n))) r he.2 (LB _ _) hm ⟨_,_,rfl⟩;refine ⟨k2,n2,rfl,?_⟩;simp only[List.map_cons,List.foldlM_cons,Sem.run_bind,hxe];cases mx
   ·simpa [Builtin.min2] using h2
   ·simpa [Builtin.max2] using h2
  | _=>rw[hy]at hm;simp [PN]at hm
 | [],_::_,_,_,_,he,_,_,_=>by simp [ED]at he
 | _::_,[],_,_,_,he,_,_,_=>by simp [ED]at he
theorem Uu (hm:BP B S w0 m) (hs:CN B S m ρ a.eval) {mx:Bool} {n0:List AP} (h:A8 P num o.op (.mm mx n0)=true) {v r:AV} {l:List AV} (hx:n0.map ρ=v::l) (hv:J4 mx v l=some r) (hi : ∃ k n,v = .int k n):CS B S w0 P o a m (.val r):=by
 obtain ⟨xs,ts,j8,he⟩:=pK h;cases n0 with
 | nil=>simp at hx
 | cons y yr =>
  simp only[List.map_cons,List.cons.injEq]at hx;obtain ⟨rfl,rfl⟩:=hx;obtain ⟨xl⟩:=xs;cases xl with
  | nil=>simp [ED]at he
  | cons x xr =>
   simp only[ED,Bool.and_eq_true]at he;obtain ⟨k,n,rfl,m7⟩:=sV (P:=P) mx hs m.w xr yr (ρ y) (a.eval x) r he.2 (hs x y he.1) hv hi;refine D7 hm (u := .int k n) ?_ (LB _ _);cases mx
   ·simp only[execOp,j8,resolve,invoke,builtin,Builtin.min_,Sem.run_bind,Sem.run_pure,Result.andThen_ok]at m7 ⊢
    simp at m7 ⊢;rw[m7];rfl
   ·simp only[execOp,j8,resolve,invoke,builtin,Builtin.max_,Sem.run_bind,Sem.run_pure,Result.andThen_ok]at m7 ⊢
    simp at m7 ⊢;rw[m7];rfl
end
end Go.c5

namespace Go.c5
open Go.RowKit
section
variable {B:Nat} {S:Nat->Prop} {w0:World} {m:M}
variable {P:Program} {num:Nat->Nat} {o:Oper} {a:Act} {ρ:AP->AV}
def G9 (ρ:AP->AV) (d:Nat):Option AP->Option Int
 | none=>some d
 | some y=>match ρ y with | .int _ n=>some n|_=>none
theorem ZM (ty e:TypeId) (inf:TypeInfo) (hu:P.underlying ty=some (.slice e)) (hi:P.info? e=some inf) (hs:CN B S m ρ a.eval) {lo m5:Option Operand} {nu Ep:Option AP} (nk:OP lo nu=true) (Hi:OP m5 Ep=true)
  (ad:Option Addr) (len cap:Nat) (l h:Int) (hl:G9 ρ 0 nu=some l) (hh:G9 ρ len Ep=some h) (h0:0<=l) (Py:l<=h) (hhl:h<=len) (mi:len<=cap) (w:World) :
  (Instr.sliceAt ty (.slice ad len cap) (lo.map a.eval) (m5.map a.eval) none).run P w = .ok (.slice (if cap=l.toNat then ad else ad.map (·.add (l.toNat*inf.size))) (h.toNat-l.toNat) (cap-l.toNat)) w:=by
 have rn : ∀ {x:Option Operand} {y:Option AP} {d:Nat} {n:Int},OP x y=true->G9 ρ d y=some n->(x=none/\y=none/\n=d) \/ ∃ x' k,x=some x'/\a.eval x' = .int k n:=by
  intro x y d n mr hb;cases x with
  | none=>cases y with
   | none=>simp [G9]at hb;exact .inl ⟨rfl,rfl,hb.symm⟩
   | some y=>simp [OP]at mr
  | some x=>cases y with
   | none=>simp [OP]at mr
   | some y =>
    simp only[OP]at mr;simp only[G9]at hb;cases hy:ρ y with
    | int k q =>
     rw[hy]at hb;simp only[Option.some.injEq]at hb;subst hb;exact .inr ⟨x,k,rfl,GW (hy ▸ hs x y mr)⟩
    | _=>rw[hy]at hb;cases hb
 have yw:h<=(cap:Int):=by omega
 unfold Instr.sliceAt Instr.slice Instr.sliceBounds;rcases rn nk hl with ⟨rfl,_,rfl⟩|⟨x1,k1,rfl,e1⟩<;>rcases rn Hi hh with ⟨rfl,_,rfl⟩|⟨x2,k2,rfl,e2⟩
 ·simp [run_underlying hu,sizeOf,typeInfo,hi]
 ·have og:=run_sliceBound (P:=P) w k2 h cap .sliceAcap (by omega) yw
  simp [run_underlying hu,sizeOf,typeInfo,hi,e2,og]
 ·have q5:=run_sliceBound (P:=P) w k1 l len .sliceB h0 (by omega)
  simp [run_underlying hu,sizeOf,typeInfo,hi,e1,q5]
 ·have og:=run_sliceBound (P:=P) w k2 h cap .sliceAcap (by omega) yw
  have q5:=run_sliceBound (P:=P) w k1 l h.toNat .sliceB h0 (by omega);simp [run_underlying hu,sizeOf,typeInfo,hi,e1,e2,og,q5]
theorem Uz (hm:BP B S w0 m) (hs:CN B S m ρ a.eval) {a7:Nat} {x':AP} {nu m5:Option AP} (h:A8 P num o.op (.fg a7 x' nu m5)=true) (hx:ρ x' = .nil) (hl:G9 ρ 0 nu=some 0) (hh:G9 ρ 0 m5=some 0):CS B S w0 P o a m (.val .nil):=by
 obtain ⟨ty,x,lo,kp,e,inf,j8,h1,h2,h3,hu,hi,q6,k9⟩:=dJ h;have w7:=PE (hx ▸ hs x x' h1);have m7:=ZM ty e inf hu hi hs h2 h3 none 0 0 0 0 hl hh (by omega) (by omega) (by omega) (by omega) m.w;refine D7 hm (u := .slice none 0 0) ?_ (.ca (.one .nil));simp only[execOp,j8,w7,Sem.run_bind,Option.map_none,m7];rfl
theorem Va (hm:BP B S w0 m) (hs:CN B S m ρ a.eval) {a7:Nat} {x':AP} {nu m5:Option AP} (h:A8 P num o.op (.fg a7 x' nu m5)=true) {s t z off len:Nat} {l u:Int} (hx:ρ x' = .row s t z off len) (hl:G9 ρ 0 nu=some l) (hh:G9 ρ len m5=some u) (h0:0<=l) (Hm:l<=u) (ig:u<=len) (hz:z=a7) :
  CS B S w0 P o a m (.val (.row s t z (off+l.toNat) (u.toNat-l.toNat))):=by
 obtain ⟨ty,x,lo,kp,e,inf,j8,h1,h2,h3,hu,hi,q6,k9⟩:=dJ h;obtain ⟨ad,cap,w7,ht,cp,mi,ha,hb⟩:=RH (hx ▸ hs x x' h1);have m7:=ZM ty e inf hu hi hs h2 h3 ad len cap l u hl hh h0 Hm ig mi m.w;refine D7 hm ?_ (.ca (.one (.row s t z (off+l.toNat) (u.toNat-l.toNat) (if cap=l.toNat then ad else ad.map (·.add (l.toNat*inf.size))) (cap-l.toNat) ht cp (by omega) (λ hp => ?_) λ b k6 => ?_)))
 ·simp only[execOp,j8,w7,Sem.run_bind,Option.map_none,m7]
  rfl
 ·rw[if_neg (by omega)]
  obtain ⟨Cc,rfl⟩:=Option.isSome_iff_exists.1 (ha (by omega));rfl
 ·obtain ⟨iv,z7⟩:=hb b k6
  refine ⟨iv,?_⟩;rcases z7 with ⟨ka,gb⟩|⟨g,arr,e',hg,jf,Hh,hle⟩
  ·exact .inl ⟨by omega,by omega⟩
  ·by_cases hc:cap=l.toNat
   ·exact .inl ⟨by omega,by omega⟩
   ·refine .inr ⟨g,arr,e',hg,?_,Hh,?_⟩
    ·rw[if_neg hc,jf,q6,hz]
     simp only[Option.map_some,G7,Nat.add_mul]
    ·rw[show off+l.toNat+(cap-l.toNat)=off+cap by omega]
     exact hle
theorem Vb (hm:BP B S w0 m) (hs:CN B S m ρ a.eval) {a7:Nat} {x':AP} {nu m5:Option AP} (h:A8 P num o.op (.fg a7 x' nu m5)=true) {lt:Bool} {es:List (List AV)} {l u:Int} (hx:ρ x' = .sl lt es) (hl:G9 ρ 0 nu=some l) (hh:G9 ρ es.length m5=some u) (h0:0<=l) (Hm:l<=u) (ig:u<=es.length) (hz : ∀ e∈es,e.length=a7) :
  CS B S w0 P o a m (.val (.sl lt ((es.take u.toNat).drop l.toNat))):=by
 obtain ⟨ty,x,lo,kp,e,inf,j8,h1,h2,h3,hu,hi,q6,k9⟩:=dJ h;have lv:=X6 (hx ▸ hs x x' h1);generalize w7:a.eval x=v at lv;cases lv with
 | jc _ ad cap =>
  have m7:=ZM ty e inf hu hi hs h2 h3 ad 0 cap l u hl hh h0 Hm (by simpa using ig) (by omega) m.w;simp only[List.length_nil]at ig;rw[show (([]:List (List AV)).take u.toNat).drop l.toNat=[] by simp];refine D7 hm (u := .slice (if cap=l.toNat then ad else ad.map (·.add (l.toNat*inf.size))) 0 (cap-l.toNat)) ?_ (.ca (.one (.rd (.jc lt _ _))));simp only[execOp,j8,w7,Sem.run_bind,Option.map_none,m7];rw[show u.toNat-l.toNat=0 by omega];rfl
 | sl _ _ b ob q7 cap uu ug hp hR v9 du hc hr =>
  have m7:=ZM ty e inf hu hi hs h2 h3 (some ⟨b,ob,none⟩) es.length cap l u hl hh h0 Hm ig v9 m.w;have Gl:q7=a7:=by
   cases es with
   | nil=>exact absurd rfl ug
   | cons q r=>rw[<-du q (by simp),hz q (by simp)]
  subst Gl;by_cases cp:u.toNat-l.toNat=0
  ·have:(es.take u.toNat).drop l.toNat=[]:=by
    apply List.eq_nil_of_length_eq_zero;simp;omega
   rw[this];refine D7 hm (u := .slice (if cap=l.toNat then some ⟨b,ob,none⟩ else (some (⟨b,ob,none⟩:Addr)).map (·.add (l.toNat*inf.size))) 0 (cap-l.toNat)) ?_ (.ca (.one (.rd (Rd.jc lt _ _))));simp only[execOp,j8,w7,Sem.run_bind,Option.map_none,m7];rw[cp];rfl
  ·have hlen:((es.take u.toNat).drop l.toNat).length=u.toNat-l.toNat:=by simp;omega
   have l7 : ∀ i,i<u.toNat-l.toNat->((es.take u.toNat).drop l.toNat)[i]? = es[l.toNat+i]? := λ i m5=>by
    rw[List.getElem?_drop,List.getElem?_take,if_pos (by omega)]
   refine D7 hm (u := .slice (some ⟨b,ob+l.toNat*q7,none⟩) ((es.take u.toNat).drop l.toNat).length (cap-l.toNat)) ?_ (.ca (.one (.rd (.sl lt _ b (ob+l.toNat*q7) q7 (cap-l.toNat) (λ i j=>uu (l.toNat+i) j) (λ e=>cp (by rw[<-hlen,e];rfl)) hp hR (by rw[hlen];omega) (λ q hq=>du q (List.mem_of_mem_take (List.mem_of_mem_drop hq))) (λ i q m5 j c hj => ?_) (λ i q m5 j c hj => ?_)))))
   ·simp only[execOp,j8,w7,Sem.run_bind,Option.map_none,m7]
    rw[if_neg (by omega),hlen,q6];simp only[Option.map_some,G7];rfl
   ·have u7:i<u.toNat-l.toNat:=by rw[<-hlen];exact (zS m5).1
    rw[l7 i u7]at m5;rw[show ob+l.toNat*q7+(i*q7+j)=ob+((l.toNat+i)*q7+j) by rw[Nat.add_mul];omega];exact hc _ q m5 j c hj
   ·have u7:i<u.toNat-l.toNat:=by rw[<-hlen];exact (zS m5).1
    rw[l7 i u7]at m5;exact hr _ q m5 j c hj
structure UH (B:Nat) (S:Nat->Prop) (m:M) (a7:Nat) (ys:List (List AV)) (ad:Option Addr) (news:List Value):Prop where
 len:news.length=ys.length*a7
 cells : ∀ b,ad=some b -> ∀ j v,news[j]? = some v->m.w.cell? (b.add j)=some v
 some_:ys≠[]->ad.isSome=true
 rel : ∀ i cs,ys[i]? = some cs -> ∀ j c,cs[j]? = some c -> ∃ u,news[i*a7+j]? = some u/\CC B S m c u
theorem Ru (a7 i j:Nat) (h:j<a7):(i*a7+j)/a7=i/\(i*a7+j)%a7=j:=by
 constructor
 ·rw[Nat.add_comm,Nat.add_mul_div_right _ _ (by omega),Nat.div_eq_of_lt h,Nat.zero_add]
 ·rw[Nat.add_comm,Nat.add_mul_mod_self_right,Nat.mod_eq_of_lt h]
theorem U6 (hm:BP B S w0 m) {av:AV} {v:Value} (hc:CV B S m av v) {ys:List (List AV)} (he:EA m.own av=some ys) {a7:Nat} (hz : ∀ e∈ys,e.length=a7) (h0:0<a7) :
  ∃ ad cap news,v = .slice ad ys.length cap/\UH B S m a7 ys ad news:=by
 cases av with
 | sl l es =>
  simp only[EA,Option.some.injEq]at he;subst he;cases X6 hc with
  | jc _ ad cap=>exact ⟨ad,cap,[],rfl,by simp,λ b _ j v hv=>by simp at hv,λ h=>absurd rfl h,λ i cs hi=>by simp at hi⟩
  | sl _ _ b ob q7 cap uu ug hp hR v9 du m8 hr =>
   have Gl:q7=a7:=by
    cases es with
    | nil=>exact absurd rfl ug
    | cons q r=>rw[<-du q (by simp),hz q (by simp)]
   subst Gl;refine ⟨some ⟨b,ob,none⟩,cap,(List.range (es.length*q7)).map (λ k=>uu (k/q7) (k%q7)),rfl,by simp,λ b' k6 j v hv => ?_,λ_=>rfl,λ i cs hi j c hj => ?_⟩
   ·obtain rfl:(⟨b,ob,none⟩:Addr)=b':=by simpa using k6
    rw[List.getElem?_map]at hv;have aj:j<es.length*q7:=by
     rcases Nat.lt_or_ge j (es.length*q7) with h|h
     ·exact h
     ·rw[List.getElem?_eq_none (by simpa using h)]at hv;cases hv
    rw[List.getElem?_range aj]at hv;simp only[Option.map_some,Option.some.injEq]at hv;subst hv;have hd:j/q7<es.length:=Nat.div_lt_of_lt_mul (by rw[Nat.mul_comm];exact aj);have Lf:j%q7<q7:=Nat.mod_lt _ h0;have ag:(es[j/q7]).length=q7:=du _ (List.getElem_mem hd);have:=m8 (j/q7) _ (zE hd) (j%q7) _ (zE (by rw[ag];exact Lf))
    rw[G7,<-this];congr 2;have:=Nat.div_add_mod j q7
    rw[Nat.mul_comm]at this;omega
   ·have aj:j<q7:=by rw[<-du cs (zM hi)];exact (zS hj).1
    have u7:i<es.length:=(zS hi).1;have k7:i*q7+j<es.length*q7:=by
     have:(i+1)*q7<=es.length*q7:=Nat.mul_le_mul_right _ u7
     rw[Nat.succ_mul]at this;omega
    obtain ⟨e1,e2⟩:=Ru q7 i j aj;refine ⟨uu i j,?_,.rd (hr i cs hi j c hj)⟩;rw[List.getElem?_map,List.getElem?_range k7];simp [e1,e2]
 | nil =>
  simp only[EA,Option.some.injEq]at he;subst he;exact ⟨none,0,[],PE hc,by simp,λ b hb=>(by cases hb),λ h=>absurd rfl h,λ i cs hi=>by simp at hi⟩
 | row s t z off len =>
  obtain ⟨ad,cap,hv,ht,cp,mi,ha,hb⟩:=RH hc;simp only[EA]at he;cases l7:m.own.get s t with
  | none=>simp [l7]at he
  | some b =>
   simp only[l7]at he;split at he
   ·rename_i hle
    obtain ⟨hle,iv⟩:=hle;obtain rfl:=Option.some.inj he;have ku:((b.es.drop off).take len).length=len:=by simp;omega
    obtain ⟨_,z7⟩:=hb b l7;by_cases ka:len=0
    ·subst ka
     refine ⟨ad,cap,[],by simpa using hv,by simp,λ b _ j v hv=>by simp at hv,λ h=>absurd (by simp) h,λ i cs hi=>by simp at hi⟩
    ·rcases z7 with ⟨h1,_⟩|⟨g,arr,e',hg,jf,Hh,Amf⟩
     ·exact absurd h1 ka
     ·obtain ⟨du,bn⟩:=hm.e8 s t b l7
      rw[hg]at bn;obtain ⟨hB,nx,e2,tz,u6⟩:=bn;rw[Hh]at tz;obtain ⟨rfl,rfl⟩:arr=nx/\e'=e2:=by simpa using tz
      have hez:a7=z:=by
       have k7:off<b.es.length:=by omega
       have h1:b.es[off]∈(b.es.drop off).take len:=by
        have:((b.es.drop off).take len)[0]? = some b.es[off]:=by
         rw[List.getElem?_take,if_pos (by omega),List.getElem?_drop];simp [k7]
        exact zM this
       rw[<-hz _ h1,du _ (List.getElem_mem k7),iv]
      subst hez;have q6:off*a7+len*a7<=arr.size:=by
       have:(off+len)*a7<=(off+cap)*a7:=Nat.mul_le_mul_right _ (by omega)
       rw[Nat.add_mul]at this;omega
      refine ⟨ad,cap,(arr.toList.drop (off*a7)).take (len*a7),by rw[ku];exact hv,by rw[ku];simp;omega,λ b' k6 j v nn => ?_,λ_=>by rw[jf];rfl,λ i cs hi j c hj => ?_⟩
      ·rw[jf]at k6
       obtain rfl:(⟨g,off*a7,none⟩:Addr)=b':=by simpa using k6
       rw[List.getElem?_take]at nn;split at nn
       ·rw[List.getElem?_drop]at nn
        rw[G7,XY Hh];simpa using nn
       ·cases nn
      ·rw[List.getElem?_take]at hi
       split at hi
       ·rename_i u7
        rw[List.getElem?_drop]at hi;have aj:j<a7:=by rw[<-iv,<-du cs (zM hi)];exact (zS hj).1
        obtain ⟨u,hu,br⟩:=u6 (off+i) cs hi j c hj;refine ⟨u,?_,br⟩;have k7:i*a7+j<len*a7:=by
         have:(i+1)*a7<=len*a7:=Nat.mul_le_mul_right _ u7
         rw[Nat.succ_mul]at this;omega
        rw[List.getElem?_take,if_pos k7,List.getElem?_drop,<-hu,iv];simp only[Array.getElem?_toList];congr 1;rw[Nat.add_mul];omega
       ·cases hi
   ·cases he
 | cj v' =>
  cases v' with
  | bool b =>
   simp only[EA,Option.some.injEq]at he;subst he;obtain ⟨ad,cap,hv,_⟩:=kZ hc;exact ⟨ad,cap,[],hv,by simp,λ b' k6 j v nn=>by simp at nn,λ h=>absurd rfl h,λ i cs hi=>by simp at hi⟩
  | _=>simp [EA]at he
 | _=>simp [EA]at he
theorem UH.one {a7:Nat} {ys:List (List AV)} {ad:Option Addr} {news:List Value} (h:UH B S m a7 ys ad news) (h0:0<a7) (hz : ∀ e∈ys,e.length=a7) : ∀ u∈news,u.oneCell'=true:=by
 intro u hu;obtain ⟨k,hk,rfl⟩:=List.getElem_of_mem hu;rw[h.len]at hk;have hd:k/a7<ys.length:=Nat.div_lt_of_lt_mul (by rw[Nat.mul_comm];exact hk);have Lf:k%a7<a7:=Nat.mod_lt _ h0;have ag:(ys[k/a7]).length=a7:=hz _ (List.getElem_mem hd);obtain ⟨u',eo,hc⟩:=h.rel (k/a7) _ (zE hd) (k%a7) _ (zE (by rw[ag];exact Lf));have ib:k/a7*a7+k%a7=k:=by
  have:=Nat.div_add_mod k a7
  rw[Nat.mul_comm]at this;exact this
 rw[ib]at eo;obtain rfl:news[k]=u':=by
  have:=(zS eo).2
  exact this
 exact hc.one
theorem UH.src {a7:Nat} {ys:List (List AV)} {ad:Option Addr} {news:List Value} (h:UH B S m a7 ys ad news) (h0:0<a7) (hz : ∀ e∈ys,e.length=a7) {t e:TypeId} (hu:P.underlying t=some (.slice e)) (cap:Nat):Src P a7 t (.slice ad ys.length cap) ys.length news m.w:=by
 cases ad with
 | none =>
  have oy:ys=[]:=by
   cases ys with
   | nil=>rfl
   | cons y r=>exact absurd (h.some_ (by simp)) (by simp)
  subst oy;have hn:news=[]:=List.eq_nil_of_length_eq_zero (by simpa using h.len);subst hn;exact Src.ofNil m.w hu cap
 | some b=>exact Src.ofSlice m.w hu b ys.length cap news h.len (h.cells b rfl) (h.one h0 hz)
theorem qV (arr:Array Value) (off:Nat) (news:List Value) (h:off+news.length<=arr.size) (p:Nat):(arr.toList.take off++news++arr.toList.drop (off+news.length)).toArray[p]? = if p<off then arr[p]? else if p<off+news.length then news[p-off]? else arr[p]? := by
 simp only[List.getElem?_toArray];rw[ZV _ _ _ (by simpa using h)];simp only[Array.getElem?_toList]
theorem Af0 (t tx e ex:TypeId) (i:TypeInfo) (ht:P.underlying t=some (.slice e)) (hx:P.underlying tx=some (.slice ex)) (hi:P.info? e=some i) (g off pe ri:Nat) (x:Value) (n:Nat) (news:List Value) (w:World) (hs:Src P i.size tx x n news w) (di:pe+n<=ri) (arr:Array Value) (e':TypeId)
  (hh:w.heap[g]? = some (.cells arr e' (0,0))) (q6:off+pe*i.size+news.length<=arr.size) (ty:TypeId) :
  (Builtin.append_ #[t,tx] ty #[.slice (some ⟨g,off,none⟩) pe ri,x]).run P w = .ok (.slice (some ⟨g,off,none⟩) (pe+n) ri) (w.setRow g (arr.toList.take (off+pe*i.size)++news++arr.toList.drop (off+pe*i.size+news.length)).toArray):=by
 have j6:=run_storeCells_at (P:=P) g (off+pe*i.size) e' news 0 arr w hh (by omega) hs.one;simp only[Nat.add_zero]at j6;simp [Builtin.append_,run_underlying ht,run_underlying hx,sizeOf,typeInfo,hi,hs.len,di,hs.cells,G7,j6]
theorem sP (t tx e ex:TypeId) (i:TypeInfo) (ht:P.underlying t=some (.slice e)) (hx:P.underlying tx=some (.slice ex)) (hi:P.info? e=some i) (ad:Option Addr) (ri:Nat) (x:Value) (w:World) (hs:Src P i.size tx x 0 [] w) (ty:TypeId) :
  (Builtin.append_ #[t,tx] ty #[.slice ad 0 ri,x]).run P w = .ok (.slice ad 0 ri) w:=by
 have hc:=hs.cells;cases ad<;>simp [Builtin.append_,run_underlying ht,run_underlying hx,sizeOf,typeInfo,hi,hs.len,hc,storeCells]
theorem R3 {x y:Operand} {t tx:TypeId} (j8:o.op = .call ⟨.builtin .append,#[x,y],#[t,tx]⟩) {u:Value} {w w':World} (h:(Builtin.append_ #[t,tx] o.type #[a.eval x,a.eval y]).run P w = .ok u w'):(execOp a.eval o).run P w = .ok (.value u) w':=by
 simp [execOp,j8,resolve,invoke,builtin,h]
theorem sS {x y:Operand} {t:TypeId} (j8:o.op = .call ⟨.builtin .copy,#[x,y],#[t,t]⟩) {u:Value} {w w':World} (h:(Builtin.copy_ #[t,t] o.type #[a.eval x,a.eval y]).run P w = .ok u w'):(execOp a.eval o).run P w = .ok (.value u) w':=by
 simp [execOp,j8,resolve,invoke,builtin,h]
theorem Zp (dc news:List Value) (z:Array Value) (k p:Nat) (h:p<dc.length+news.length):((dc++news).toArray++Builtin.zeroCells z k)[p]? = (dc++news)[p]? := by
 rw[Array.getElem?_append_left (by simpa using h)];simp
theorem AfV {a7 len:Nat} {xs ys:List (List AV)} {dc news:List Value} (sj:xs.length=len) (Hp:dc.length=len*a7) (hzx : ∀ e∈xs,e.length=a7)
  (hx : ∀ i cs,xs[i]? = some cs -> ∀ j c,cs[j]? = some c -> ∃ u,dc[i*a7+j]? = some u/\CC B S m c u)
  (hy : ∀ i cs,ys[i]? = some cs -> ∀ j c,cs[j]? = some c -> ∃ u,news[i*a7+j]? = some u/\CC B S m c u) :
  ∀ i cs,(xs++ys)[i]? = some cs -> ∀ j c,cs[j]? = some c -> ∃ u,(dc++news)[i*a7+j]? = some u/\CC B S m c u:=by
 intro i cs hi j c hj;by_cases u7:i<len
 ·rw[List.getElem?_append_left (by omega)]at hi
  obtain ⟨u,hu,hc⟩:=hx i cs hi j c hj;exact ⟨u,by rw[List.getElem?_append_left (by have:=(zS hu).1;omega)];exact hu,hc⟩
 ·rw[List.getElem?_append_right (by omega),sj]at hi
  obtain ⟨u,hu,hc⟩:=hy (i-len) cs hi j c hj;refine ⟨u,?_,hc⟩;have e1:i*a7=len*a7+(i-len)*a7:=by rw[<-Nat.add_mul];congr 1;omega
  rw[List.getElem?_append_right (by omega),<-hu];congr 1;omega
theorem qN {s z n cap:Nat} {es:List (List AV)} {w':World} {g t:Nat} {arr:Array Value} {e:TypeId} (hz:0<z) (hn:n<=cap) (hg:w'.heap[g]? = some (.cells arr e (0,0))) (hc:cap*z<=arr.size) :
  CV B S ⟨j4 m s (some g),m.own.put s (((m.own s).n6 t none).new ⟨z,es⟩),w'⟩ (.row s (m.own.g9 s) z 0 n) (.slice (some ⟨g,0,none⟩) n cap):=by
 refine .ca (.one (.row s (m.own.g9 s) z 0 n _ cap ?_ hz hn (λ_=>rfl) λ b' k6=>⟨?_,.inr ⟨g,arr,e,?_,by simp,hg,by simpa using hc⟩⟩))
 ·show _<AH.g9 _ s
  rw[X3];simp
 ·change AH.get _ s _=some b' at k6
  rw[RP,if_pos ⟨rfl,rfl⟩]at k6;obtain rfl:(⟨z,es⟩:DT)=b':=by simpa using k6
  rfl
 ·simp [j4]
theorem zU (hm:BP B S w0 m) (ob:Obj):Below B w0 (m.w.drew.alloc ob):=hm.below.drew.alloc (by simpa using hm.size) ob
theorem lS (hm:BP B S w0 m) (hs:CN B S m ρ a.eval) {s a7 bytes:Nat} {x' y':AP} (h:A8 P num o.op (.app s a7 bytes x' y')=true) {ys:List (List AV)} (hy:EA m.own (ρ y')=some ys) (hz : ∀ e∈ys,e.length=a7) {s' t len:Nat} {b:DT} (hx:ρ x' = .row s' t a7 0 len) (l7:m.own.get s' t=some b)
  (iv:b.a7=a7) (hle:len<=b.es.length) (di:(len+ys.length)*bytes<=DP) (Ad:len+ys.length<=9223372036854775807) :
  CS B S w0 P o a m (.bu (.row s' (m.own.g9 s') a7 0 (len+ys.length)) (m.own.put s' (((m.own s').n6 t none).new ⟨a7,b.es.take len++ys⟩))):=by
 obtain ⟨x,y,ty,e,i,z,tx,ex,j8,h1,h2,hu,hi,q6,ln,cp,du,k9,vt⟩:=pH h;have h0:0<a7:=Nat.pos_of_ne_zero k9;obtain ⟨ad,cap,w7,ht,_,mi,ha,hb⟩:=RH (hx ▸ hs x x' h1);obtain ⟨lj,af,news,oz,ag⟩:=U6 hm (hs y y' h2) hy hz h0;have mo:Src P i.size tx (.slice lj ys.length af) ys.length news m.w:=by rw[q6];exact ag.src h0 hz vt af
 obtain ⟨gl,bn⟩:=hm.e8 s' t b l7;obtain ⟨_,z7⟩:=hb b l7;have aw:(b.es.take len).length=len:=by simp;omega
 have zs : ∀ q∈b.es.take len++ys,q.length=a7:=λ q hq=>by
  rcases List.mem_append.1 hq with hq|hq
  ·rw[<-iv];exact gl q (List.mem_of_mem_take hq)
  ·exact hz q hq
 intro K Q hK;by_cases tt:len+ys.length<=cap
 ·rcases z7 with ⟨ka,gb⟩|⟨g,arr,e',hg,jf,hh,Eh⟩
  ·have oy:ys=[]:=List.eq_nil_of_length_eq_zero (by omega)
   subst oy;subst ka gb;have ru:news=[]:=List.eq_nil_of_length_eq_zero (by simpa using ag.len);subst ru;have m7:=sP ty tx e ex i hu vt hi ad 0 (.slice lj 0 af) m.w (by simpa using mo) o.type;obtain ⟨k1,k2⟩:=dZ hm s' t b ⟨a7,b.es.take 0++[]⟩ l7 none m.w hm.below (Nat.le_refl _) (λ_ _ _=>rfl) (by simp) (by simp) (by simp);refine JP (R3 j8 (by rw[w7,oz];simpa using m7)) (hK _ ⟨j4 m s' none,m.own.put s' (((m.own s').n6 t none).new ⟨a7,b.es.take 0++[]⟩),m.w⟩ rfl k1 k2 (.ca (.one (.row s' (m.own.g9 s') a7 0 0 ad 0 ?_ h0 (Nat.le_refl _) (λ h=>by omega) λ b' k6=>⟨?_,.inl ⟨rfl,rfl⟩⟩))))
   ·show _<AH.g9 _ s'
    rw[X3];simp
   ·change AH.get _ s' _=some b' at k6
    rw[RP,if_pos ⟨rfl,rfl⟩]at k6;obtain rfl:(⟨a7,b.es.take 0++[]⟩:DT)=b':=by simpa using k6
    rfl
  ·have Aq:ad=some ⟨g,0,none⟩:=by simpa using jf
   rw[hg]at bn;obtain ⟨hB,nx,e2,tz,u6⟩:=bn;rw[hh]at tz;obtain ⟨rfl,rfl⟩:arr=nx/\e'=e2:=by simpa using tz
   have vm:news.length=ys.length*a7:=ag.len;have hbound:len*a7+news.length<=arr.size:=by
    have:(len+ys.length)*a7<=(0+cap)*a7:=Nat.mul_le_mul_right _ (by omega)
    rw[Nat.add_mul]at this;omega
   have m7:=Af0 ty tx e ex i hu vt hi g 0 len cap (.slice lj ys.length af) ys.length news m.w mo tt arr e' hh (by rw[q6];omega) o.type;rw[q6,Nat.zero_add]at m7;generalize ga:(arr.toList.take (len*a7)++news++arr.toList.drop (len*a7+news.length)).toArray=o0 at m7;have ct : ∀ p,o0[p]? = if p<len*a7 then arr[p]? else if p<len*a7+news.length then news[p-len*a7]? else arr[p]? := λ p=>by rw[<-ga];exact qV arr (len*a7) news hbound p
   have jb:o0.size=arr.size:=by rw[<-ga];simp;omega
   obtain ⟨k1,k2⟩:=dZ hm s' t b ⟨a7,b.es.take len++ys⟩ l7 (some g) (m.w.setRow g o0) (aO hm hB o0) (by simp) (λ k _ ug=>setRow_other _ _ _ _ (λ e=>ug (e ▸ hg))) zs (by simp) (λ g' jg=>by
    obtain rfl:g=g':=by simpa using jg
    refine ⟨hB,.inr hg,o0,e',setRow_heap _ _ _ _ _ _ hh,λ i' cs m5 j c hj => ?_⟩;show ∃ u,o0[i'*a7+j]? = some u/\_;by_cases u7:i'<len
    ·rw[List.getElem?_append_left (by omega),List.getElem?_take,if_pos u7]at m5
     have aj:j<a7:=by rw[<-iv,<-gl cs (zM m5)];exact (zS hj).1
     obtain ⟨u,eo,br⟩:=u6 i' cs m5 j c hj;refine ⟨u,?_,br⟩;have:(i'+1)*a7<=len*a7:=Nat.mul_le_mul_right _ u7
     rw[Nat.succ_mul]at this;rw[ct,if_pos (by omega),<-eo,iv]
    ·rw[List.getElem?_append_right (by omega),aw]at m5
     obtain ⟨u,eo,br⟩:=ag.rel (i'-len) cs m5 j c hj;refine ⟨u,?_,br⟩;have ig:=(zS eo).1;have e1:i'*a7=len*a7+(i'-len)*a7:=by rw[<-Nat.add_mul];congr 1;omega
     rw[ct,if_neg (by omega),if_pos (by omega),<-eo];congr 1;omega)
   exact JP (R3 j8 (by rw[w7,oz,Aq];exact m7)) (hK _ ⟨j4 m s' (some g),m.own.put s' (((m.own s').n6 t none).new ⟨a7,b.es.take len++ys⟩),m.w.setRow g o0⟩ rfl k1 k2 (qN h0 tt (setRow_heap _ _ _ _ _ _ hh) (by rw[jb];simpa using Eh)))
 ·have yz:cap<len+ys.length:=by omega
  obtain ⟨dc,Hp,hold,Lv⟩ : ∃ dc:List Value,dc.length=len*a7/\(Builtin.firstCells i.size len (.slice ad len cap)).run P m.w.drew = .ok dc.toArray m.w.drew/\(∀ i' cs,(b.es.take len)[i']? = some cs -> ∀ j c,cs[j]? = some c -> ∃ u,dc[i'*a7+j]? = some u/\CC B S m c u):=by
   rcases z7 with ⟨ka,gb⟩|⟨g,arr,e',hg,jf,hh,Eh⟩
   ·subst ka
    refine ⟨[],by simp,?_,λ i' cs m5=>by simp at m5⟩;cases ad with
    | none=>exact run_firstCells_none m.w.drew i.size 0 0 cap
    | some Cc=>exact run_firstCells_some m.w.drew i.size 0 Cc 0 cap [] (by simp) (λ j v hv=>by simp at hv)
   ·have Aq:ad=some ⟨g,0,none⟩:=by simpa using jf
    rw[hg]at bn;obtain ⟨hB,nx,e2,tz,u6⟩:=bn;rw[hh]at tz;obtain ⟨rfl,rfl⟩:arr=nx/\e'=e2:=by simpa using tz
    have m8:len*a7<=arr.size:=by
     have:len*a7<=(0+cap)*a7:=Nat.mul_le_mul_right _ (by omega)
     omega
    refine ⟨arr.toList.take (len*a7),by simp;omega,?_,λ i' cs m5 j c hj => ?_⟩
    ·rw[Aq]
     refine run_firstCells_some m.w.drew i.size len ⟨g,0,none⟩ len cap _ (by rw[q6];simp;omega) (λ j v hv => ?_);rw[List.getElem?_take]at hv;split at hv
     ·rw[G7,XY (w:=m.w.drew) (show m.w.heap[g]? = _ from hh)]
      simpa using hv
     ·cases hv
    ·rw[List.getElem?_take]at m5
     split at m5
     ·rename_i u7
      have aj:j<a7:=by rw[<-iv,<-gl cs (zM m5)];exact (zS hj).1
      obtain ⟨u,eo,br⟩:=u6 i' cs m5 j c hj;refine ⟨u,?_,br⟩;have:(i'+1)*a7<=len*a7:=Nat.mul_le_mul_right _ u7
      rw[Nat.succ_mul]at this;rw[List.getElem?_take,if_pos (by omega),<-eo,iv];simp
     ·cases m5
  have m7:=run_append_grow_src (P:=P) m.w ty tx o.type e i z hu hi cp ad len cap dc hold (.slice lj ys.length af) ys.length news mo yz (by omega) (growslice_fits yz (by rw[ln];exact di));have vm:news.length=ys.length*a7:=ag.len;have v9:len+ys.length<=grownCap m.w (len+ys.length) cap e:=grownCap_ge _ _ _ _;generalize Ck:grownCap m.w (len+ys.length) cap e=gc at m7 v9;have iu:=zU hm (.cells ((dc++news).toArray++Builtin.zeroCells z.cells (gc-(len+ys.length))) e);have kt:(m.w.drew.alloc (.cells ((dc++news).toArray++Builtin.zeroCells z.cells (gc-(len+ys.length))) e)).heap[m.w.heap.size]? = some (.cells ((dc++news).toArray++Builtin.zeroCells z.cells (gc-(len+ys.length))) e (0,0)):=heap_alloc_new m.w.drew _;obtain ⟨k1,k2⟩:=dZ hm s' t b ⟨a7,b.es.take len++ys⟩ l7 (some m.w.heap.size) _ iu (by simp) (λ k hk _=>Below.heap_alloc m.w.drew _ k hk) zs (by simp) (λ g' jg=>by
   obtain rfl:m.w.heap.size=g':=by simpa using jg
   refine ⟨hm.size,.inl (Nat.le_refl _),_,e,kt,λ i' cs m5 j c hj => ?_⟩;obtain ⟨u,eo,br⟩:=AfV aw Hp (λ q hq=>by rw[<-iv];exact gl q (List.mem_of_mem_take hq)) Lv ag.rel i' cs m5 j c hj;refine ⟨u,?_,br⟩;rw[Zp _ _ _ _ _ (by have:=(zS eo).1;simpa using this)];exact eo)
  refine JP (R3 j8 (by rw[w7,oz];exact m7)) (hK _ ⟨j4 m s' (some m.w.heap.size),m.own.put s' (((m.own s').n6 t none).new ⟨a7,b.es.take len++ys⟩),_⟩ rfl k1 k2 (qN h0 v9 kt ?_));have vu:(Builtin.zeroCells z.cells (gc-(len+ys.length))).size=(gc-(len+ys.length))*a7:=by simp [Builtin.zeroCells,du]
  rw[Array.size_append,vu];simp only[List.size_toArray,List.length_append,Hp,vm];rw[<-Nat.add_mul,<-Nat.add_mul];exact Nat.mul_le_mul_right _ (by omega)
theorem Sc (hm:BP B S w0 m) (hs:CN B S m ρ a.eval) {s a7 bytes:Nat} {x' y':AP} (h:A8 P num o.op (.app s a7 bytes x' y')=true) {ys:List (List AV)} (hy:EA m.own (ρ y')=some ys) (hz : ∀ e∈ys,e.length=a7) (hx:ρ x' = .nil)
  (di:ys.length*bytes<=DP) (Ad:ys.length<=9223372036854775807) :
  CS B S w0 P o a m (.bu (.row s (m.own.g9 s) a7 0 ys.length) (m.own.put s ((m.own s).new ⟨a7,ys⟩))):=by
 obtain ⟨x,y,ty,e,i,z,tx,ex,j8,h1,h2,hu,hi,q6,ln,cp,du,k9,vt⟩:=pH h;have h0:0<a7:=Nat.pos_of_ne_zero k9;have w7:=PE (hx ▸ hs x x' h1);obtain ⟨lj,af,news,oz,ag⟩:=U6 hm (hs y y' h2) hy hz h0;have mo:Src P i.size tx (.slice lj ys.length af) ys.length news m.w:=by rw[q6];exact ag.src h0 hz vt af
 intro K Q hK;by_cases oy:ys=[]
 ·subst oy
  have ru:news=[]:=List.eq_nil_of_length_eq_zero (by simpa using ag.len);subst ru;have m7:=sP ty tx e ex i hu vt hi none 0 (.slice lj 0 af) m.w (by simpa using mo) o.type;obtain ⟨k1,k2⟩:=uZ hm s a7;refine JP (R3 j8 (by rw[w7,oz];simpa using m7)) (hK _ ⟨j4 m s none,m.own.put s ((m.own s).new ⟨a7,[]⟩),m.w⟩ rfl k1 k2 (.ca (.one (.row s (m.own.g9 s) a7 0 0 none 0 ?_ h0 (Nat.le_refl _) (λ h=>by omega) λ b' k6=>⟨?_,.inl ⟨rfl,rfl⟩⟩))))
  ·show _<AH.g9 _ s
   rw[KM];simp
  ·change AH.get _ s _=some b' at k6
   rw[FY,if_pos ⟨rfl,rfl⟩]at k6;obtain rfl:(⟨a7,[]⟩:DT)=b':=by simpa using k6
   rfl
 ·have qt:0<ys.length:=List.length_pos_iff.2 oy
  have m7:=run_append_grow_src (P:=P) m.w ty tx o.type e i z hu hi cp none 0 0 [] (run_firstCells_none m.w.drew i.size 0 0 0) (.slice lj ys.length af) ys.length news mo (by omega) (by omega) (growslice_fits (by omega) (by rw[ln,Nat.zero_add];exact di));simp only[Nat.zero_add,List.nil_append]at m7;have vm:news.length=ys.length*a7:=ag.len;have v9:ys.length<=grownCap m.w ys.length 0 e:=grownCap_ge _ _ _ _;generalize Ck:grownCap m.w ys.length 0 e=gc at m7 v9;have hd:Below m.w.heap.size m.w m.w.drew:=(Below.refl _ _).drew;obtain ⟨iy,vi⟩:=grow hm hd;obtain ⟨k1,k2⟩:=UR iy s ⟨a7,ys⟩ (news.toArray++Builtin.zeroCells z.cells (gc-ys.length)) e hz (λ i' cs m5 j c hj=>by
   obtain ⟨u,eo,br⟩:=ag.rel i' cs m5 j c hj;refine ⟨u,?_,vi.cc br⟩;have ig:=(zS eo).1;show (news.toArray++Builtin.zeroCells z.cells (gc-ys.length))[i'*a7+j]? = some u;rw[Array.getElem?_append_left (by simpa using ig)];simpa using eo)
  have vu:(Builtin.zeroCells z.cells (gc-ys.length)).size=(gc-ys.length)*a7:=by simp [Builtin.zeroCells,du]
  refine JP (R3 j8 (by rw[w7,oz];exact m7)) (hK _ ⟨j4 ⟨m.ν,m.own,m.w.drew⟩ s (some m.w.drew.heap.size),m.own.put s ((m.own s).new ⟨a7,ys⟩),_⟩ rfl k1 (vi.trans k2) (Y0 (m:=⟨m.ν,m.own,m.w.drew⟩) h0 v9 (heap_alloc_new m.w.drew _) ?_));rw[Array.size_append,vu];simp only[List.size_toArray,vm];rw[<-Nat.add_mul];exact Nat.mul_le_mul_right _ (by omega)
theorem Sb (hm:BP B S w0 m) (hs:CN B S m ρ a.eval) {s a7 bytes:Nat} {x' y':AP} (h:A8 P num o.op (.nw s a7 bytes x' y')=true) {ys:List (List AV)} (hy:EA m.own (ρ y')=some ys) (hz : ∀ e∈ys,e.length=a7) (hx:ρ x' = .nil)
  (qt:0<ys.length) (di:ys.length*bytes<=DP) (Ad:ys.length<=9223372036854775807) :
  CS B S w0 P o a m (.new s ⟨a7,ys⟩ (λ t => .row s t a7 0 ys.length)):=by
 obtain ⟨x,y,ty,e,i,z,tx,ex,j8,h1,h2,hu,hi,q6,ln,cp,du,k9,vt⟩:=Aec h;have h0:0<a7:=Nat.pos_of_ne_zero k9;have w7:=PE (hx ▸ hs x x' h1);obtain ⟨lj,af,news,oz,ag⟩:=U6 hm (hs y y' h2) hy hz h0;have mo:Src P i.size tx (.slice lj ys.length af) ys.length news m.w:=by rw[q6];exact ag.src h0 hz vt af
 intro K Q hK;have m7:=run_append_grow_src (P:=P) m.w ty tx o.type e i z hu hi cp none 0 0 [] (run_firstCells_none m.w.drew i.size 0 0 0) (.slice lj ys.length af) ys.length news mo (by omega) (by omega) (growslice_fits (by omega) (by rw[ln,Nat.zero_add];exact di));simp only[Nat.zero_add,List.nil_append]at m7;have vm:news.length=ys.length*a7:=ag.len;have v9:ys.length<=grownCap m.w ys.length 0 e:=grownCap_ge _ _ _ _;generalize Ck:grownCap m.w ys.length 0 e=gc at m7 v9;have hd:Below m.w.heap.size m.w m.w.drew:=(Below.refl _ _).drew;obtain ⟨iy,vi⟩:=grow hm hd;obtain ⟨k1,k2⟩:=UR iy s ⟨a7,ys⟩ (news.toArray++Builtin.zeroCells z.cells (gc-ys.length)) e hz (λ i' cs m5 j c hj=>by
  obtain ⟨u,eo,br⟩:=ag.rel i' cs m5 j c hj;refine ⟨u,?_,vi.cc br⟩;have ig:=(zS eo).1;show (news.toArray++Builtin.zeroCells z.cells (gc-ys.length))[i'*a7+j]? = some u;rw[Array.getElem?_append_left (by simpa using ig)];simpa using eo)
 have vu:(Builtin.zeroCells z.cells (gc-ys.length)).size=(gc-ys.length)*a7:=by simp [Builtin.zeroCells,du]
 refine JP (R3 j8 (by rw[w7,oz];exact m7)) (hK _ ⟨j4 ⟨m.ν,m.own,m.w.drew⟩ s (some m.w.drew.heap.size),m.own.put s ((m.own s).new ⟨a7,ys⟩),_⟩ rfl k1 (vi.trans k2) (Y0 (m:=⟨m.ν,m.own,m.w.drew⟩) h0 v9 (heap_alloc_new m.w.drew _) ?_));rw[Array.size_append,vu];simp only[List.size_toArray,vm];rw[<-Nat.add_mul];exact Nat.mul_le_mul_right _ (by omega)
theorem Af1 (w:World) (t tx ty e:TypeId) (i:TypeInfo) (z:Value) (ht:P.underlying t=some (.slice e)) {k:IntKind} (hk:P.underlying tx=some (.int k)) (hi:P.info? e=some i) (hz:i.zero=some z) (k':IntKind) (n:Nat)
  (hn:0<n) (Ad:(n:Int)<=9223372036854775807) (Nu:n*i.bytes<=DP) (k9:i.size≠0) :
  (Builtin.append_ #[t,tx] ty #[.slice none 0 0,.int k' n]).run P w =
   .ok (.slice (some ⟨w.heap.size,0,none⟩) n (grownCap w n 0 e))
    (w.drew.alloc (.cells (Builtin.zeroCells z.cells n++Builtin.zeroCells z.cells (grownCap w n 0 e-n)) e)):=by
 have tt:=growslice_fits (old:=0) (need:=n) (bytes:=i.bytes) hn Nu;have h1 : ¬ (n:Int)<0:=by omega
 have h2 : ¬ n=0:=by omega
 have h3 : ¬ (9223372036854775807<(n:Int)):=by omega
 have h5 : ¬ (281474976710656<Builtin.nextslicecap n 0*i.bytes):=by omega
 have h6 : ¬ ((281474976710656:Int)<(n:Int)*(i.bytes:Int)):=by
  have Iq:n*i.bytes<=140737488355328:=Nu;have h7:=Int.ofNat_le.2 Iq;rw[Int.natCast_mul]at h7;omega
 have hA : ∀ w':World,(asIntOf (.int k' n)).run P w' = .ok (k',(n:Int)) w':=λ w'=>rfl
 have e1:IntKind.i64.wrap (n:Int)=n:=by rw[IntKind.wrap_i64];omega
 generalize hw:IntKind.i64.wrap (n:Int)=q at e1;subst e1;simp [Builtin.append_,run_underlying ht,run_underlying hk,sizeOf,typeInfo,zeroValue,hi,hz,asInt,hA,hw,h1,h2,h3,h5,h6,k9,Question.forced,Builtin.firstCells,newRow,grownCap];intro h;rcases Nat.mul_eq_zero.1 h with h|h
 ·exact absurd h h2
 ·exact absurd h k9
theorem Vs (hm:BP B S w0 m) (hs:CN B S m ρ a.eval) {s a7 bytes:Nat} {x' y':AP} (h:A8 P num o.op (.nb s a7 bytes x' y')=true) (hx:ρ x' = .nil) {k':IntKind} {n:Int} (hy:ρ y' = .int k' n)
  (hn:0<n) (di:n*bytes<=DP) (Ad:n<=9223372036854775807) :
  CS B S w0 P o a m (.new s ⟨a7,[]⟩ (λ t => .row s t a7 0 n.toNat)):=by
 obtain ⟨x,y,ty,e,i,z,tx,k,j8,h1,h2,hu,hi,q6,ln,cp,du,k9,vt⟩:=Aee h;have h0:0<a7:=Nat.pos_of_ne_zero k9;have w7:=PE (hx ▸ hs x x' h1);have hey:=GW (hy ▸ hs y y' h2);obtain ⟨q,rfl⟩ : ∃ q:Nat,n=q:=⟨n.toNat,by omega⟩;simp only[Int.toNat_natCast];intro K Q hK;have m7:=Af1 (P:=P) m.w ty tx o.type e i z hu vt hi cp k' q (by omega) Ad (by
  rw[ln];rw[<-Int.natCast_mul]at di;exact Int.ofNat_le.1 di) (by rw[q6];exact k9)
 have v9:q<=grownCap m.w q 0 e:=grownCap_ge _ _ _ _;generalize Ck:grownCap m.w q 0 e=gc at m7 v9;have hd:Below m.w.heap.size m.w m.w.drew:=(Below.refl _ _).drew;obtain ⟨iy,vi⟩:=grow hm hd;obtain ⟨k1,k2⟩:=UR iy s ⟨a7,[]⟩ (Builtin.zeroCells z.cells q++Builtin.zeroCells z.cells (gc-q)) e (by simp) (λ i' cs m5 j c hj=>by simp at m5);have vu : ∀ n,(Builtin.zeroCells z.cells n).size=n*a7:=λ n=>by simp [Builtin.zeroCells,du]
 refine JP (R3 j8 (by rw[w7,hey];exact m7)) (hK _ ⟨j4 ⟨m.ν,m.own,m.w.drew⟩ s (some m.w.drew.heap.size),m.own.put s ((m.own s).new ⟨a7,[]⟩),_⟩ rfl k1 (vi.trans k2) (Y0 (m:=⟨m.ν,m.own,m.w.drew⟩) h0 v9 (heap_alloc_new m.w.drew _) ?_));rw[Array.size_append,vu,vu,<-Nat.add_mul];exact Nat.mul_le_mul_right _ (by omega)
end
end Go.c5

namespace Go.c5
open Go.RowKit
section
variable {B:Nat} {S:Nat->Prop} {w0:World} {m:M}
variable {P:Program} {num:Nat->Nat} {o:Oper} {a:Act} {ρ:AP->AV}
theorem AgW (ow:AH) (s t:Nat) (b:DT) (h:ow.get s t=some b):ow.put s ((ow s).n6 t (some b))=ow:=by
 funext s'
 unfold AH.put CD.n6;by_cases hs:s'=s
 ·subst hs
  rw[if_pos rfl];unfold AH.get at h;cases hx:ow s' with
  | mk c f =>
   rw[hx]at h;simp only at h;congr;funext t'
   by_cases ht:t'=t
   ·subst ht;simp [h]
   ·simp [ht]
 ·simp [hs]
theorem sQ (ty e:TypeId) (i:TypeInfo) (hu:P.underlying ty=some (.slice e)) (hi:P.info? e=some i) (ad:Option Addr) (Aa Ip:Nat) (lj:Option Addr) (yl yc:Nat) (cs:List Value) (w w':World) (rt:TypeId)
  (hf:(Builtin.firstCells i.size (Nat.min yl Aa) (.slice lj yl yc)).run P w = .ok cs.toArray w) (j6 : ∀ b,ad=some b->(storeCells b cs).run P w = .ok () w') (hn:ad=none->w'=w) :
  (Builtin.copy_ #[ty,ty] rt #[.slice ad Aa Ip,.slice lj yl yc]).run P w = .ok (goInt (Nat.min yl Aa)) w':=by
 cases ad with
 | none=>rw[hn rfl];simp [Builtin.copy_,run_underlying hu,sizeOf,typeInfo,hi,Builtin.lenOf,hf]
 | some b=>simp [Builtin.copy_,run_underlying hu,sizeOf,typeInfo,hi,Builtin.lenOf,hf,j6 b rfl]
theorem Wi (hm:BP B S w0 m) (hs:CN B S m ρ a.eval) {a7:Nat} {x' y':AP} (h:A8 P num o.op (.oa a7 x' y')=true) {ys:List (List AV)} (hy:EA m.own (ρ y')=some ys) (hz : ∀ e∈ys,e.length=a7) {s t off len:Nat} {b:DT} (hx:ρ x' = .row s t a7 off len) (l7:m.own.get s t=some b)
  (iv:b.a7=a7) (hle:off+len<=b.es.length) :
  CS B S w0 P o a m (.bu (.int .i64 (min ys.length len:Nat)) (m.own.put s ((m.own s).n6 t (some ⟨a7,b.es.take off++ys.take len++b.es.drop (off+min ys.length len)⟩)))):=by
 obtain ⟨x,y,ty,e,i,j8,h1,h2,hu,hi,q6,k9⟩:=Aeq h;have h0:0<a7:=Nat.pos_of_ne_zero k9;obtain ⟨ad,cap,w7,ht,_,mi,ha,hb⟩:=RH (hx ▸ hs x x' h1);obtain ⟨lj,af,news,oz,ag⟩:=U6 hm (hs y y' h2) hy hz h0;obtain ⟨gl,bn⟩:=hm.e8 s t b l7;obtain ⟨_,z7⟩:=hb b l7;have vm:news.length=ys.length*a7:=ag.len;have Amb:min ys.length len*a7<=news.length:=by rw[vm];exact Nat.mul_le_mul_right _ (Nat.min_le_left _ _)
 have tn:(news.take (min ys.length len*a7)).length=min ys.length len*a7:=by simp;omega
 have hf:(Builtin.firstCells i.size (Nat.min ys.length len) (.slice lj ys.length af)).run P m.w = .ok (news.take (min ys.length len*a7)).toArray m.w:=by
  cases Gj:lj with
  | none =>
   have oy:ys=[]:=by
    cases ys with
    | nil=>rfl
    | cons q r=>exact absurd (ag.some_ (by simp)) (by simp [Gj])
   subst oy;simp only[List.length_nil,Nat.zero_min,Nat.zero_mul,List.take_zero];have:=run_firstCells_none (P:=P) m.w i.size 0 0 af
   simpa using this
  | some yb =>
   refine run_firstCells_some m.w i.size _ yb ys.length af _ (by rw[tn,q6]) (λ j v hv => ?_);rw[List.getElem?_take]at hv;split at hv
   ·exact ag.cells yb Gj j v hv
   ·cases hv
 intro K Q hK;by_cases hk:min ys.length len=0
 ·have gb:news.take (min ys.length len*a7)=[]:=by rw[hk];simp
  have j9:m.own.put s ((m.own s).n6 t (some ⟨a7,b.es.take off++ys.take len++b.es.drop (off+min ys.length len)⟩))=m.own:=by
   have uv:ys.take len=[]:=by
    apply List.eq_nil_of_length_eq_zero;rw[List.length_take];omega
   rw[hk,uv];have:b=⟨a7,b.es.take off++[]++b.es.drop (off+0)⟩:=by
    cases b with
    | mk z es=>simp at iv;subst iv;simp
   rw[<-this];exact AgW _ _ _ _ l7
  have m7:=sQ ty e i hu hi ad len cap lj ys.length af _ m.w m.w o.type hf (λ b' _=>by rw[gb];rfl) (λ_=>rfl);refine JP (sS j8 (by rw[w7,oz];exact m7)) (hK _ m j9.symm hm (DG.refl m) (LB _ _))
 ·rcases z7 with ⟨ka,gb⟩|⟨g,arr,e',hg,jf,hh,Eh⟩
  ·omega
  ·rw[hg]at bn
   obtain ⟨hB,nx,e2,tz,u6⟩:=bn;rw[hh]at tz;obtain ⟨rfl,rfl⟩:arr=nx/\e'=e2:=by simpa using tz
   have hbound:off*a7+(news.take (min ys.length len*a7)).length<=arr.size:=by
    rw[tn,<-Nat.add_mul];exact Nat.le_trans (Nat.mul_le_mul_right _ (by omega)) Eh
   have fu : ∀ u∈news.take (min ys.length len*a7),u.oneCell'=true:=λ u eo=>ag.one h0 hz u (List.mem_of_mem_take eo)
   have j6:=run_storeCells_at (P:=P) g (off*a7) e' (news.take (min ys.length len*a7)) 0 arr m.w hh (by omega) fu;simp only[Nat.add_zero]at j6;generalize ga:(arr.toList.take (off*a7)++news.take (min ys.length len*a7)++arr.toList.drop (off*a7+(news.take (min ys.length len*a7)).length)).toArray=o0 at j6;have ct : ∀ p,o0[p]? = if p<off*a7 then arr[p]? else if p<off*a7+min ys.length len*a7 then (news.take (min ys.length len*a7))[p-off*a7]? else arr[p]? := λ p=>by
    rw[<-ga,qV arr (off*a7) _ hbound p,tn]
   have jb:o0.size=arr.size:=by rw[<-ga];simp;omega
   obtain ⟨k1,k2⟩:=uS hm s t b ⟨a7,b.es.take off++ys.take len++b.es.drop (off+min ys.length len)⟩ l7 g hg arr o0 e' hh iv.symm (λ q hq=>by
     rcases List.mem_append.1 hq with hq|hq
     ·rcases List.mem_append.1 hq with hq|hq
      ·rw[<-iv];exact gl q (List.mem_of_mem_take hq)
      ·exact hz q (List.mem_of_mem_take hq)
     ·rw[<-iv];exact gl q (List.mem_of_mem_drop hq)) jb
    (λ i' cs m5 j c hj=>by
     show ∃ u,o0[i'*a7+j]? = some u/\_;have ku:(ys.take len).length=min ys.length len:=by simp;omega
     change (b.es.take off++ys.take len++b.es.drop (off+min ys.length len))[i']? = some cs at m5;have Mz:=ku;rw[<-Mz,ZV _ _ _ (by rw[ku];omega),ku]at m5;by_cases Cn:i'<off
     ·rw[if_pos Cn]at m5
      have aj:j<a7:=by rw[<-iv,<-gl cs (zM m5)];exact (zS hj).1
      obtain ⟨u,eo,br⟩:=u6 i' cs m5 j c hj;have:(i'+1)*a7<=off*a7:=Nat.mul_le_mul_right _ Cn
      rw[Nat.succ_mul]at this;exact ⟨u,by rw[ct,if_pos (by omega),<-eo,iv],br⟩
     ·rw[if_neg Cn]at m5
      have e1:i'*a7=off*a7+(i'-off)*a7:=by rw[<-Nat.add_mul];congr 1;omega
      by_cases kp:i'<off+min ys.length len
      ·rw[if_pos kp,List.getElem?_take,if_pos (by omega)]at m5
       have aj:j<a7:=by rw[<-hz cs (zM m5)];exact (zS hj).1
       obtain ⟨u,eo,br⟩:=ag.rel (i'-off) cs m5 j c hj;have h3:(i'-off+1)*a7<=min ys.length len*a7:=Nat.mul_le_mul_right _ (by omega);rw[Nat.succ_mul]at h3;refine ⟨u,?_,br⟩;rw[ct,if_neg (by omega),if_pos (by omega),List.getElem?_take,if_pos (by omega),<-eo];congr 1;omega
      ·rw[if_neg kp]at m5
       obtain ⟨u,eo,br⟩:=u6 i' cs m5 j c hj;have h3:(off+min ys.length len)*a7<=i'*a7:=Nat.mul_le_mul_right _ (by omega);rw[Nat.add_mul]at h3;exact ⟨u,by rw[ct,if_neg (by omega),if_neg (by omega),<-eo,iv],br⟩)
    (m.w.setRow g o0) (aO hm hB o0) (by simp) (λ k hk=>setRow_other _ _ _ _ hk) (setRow_heap _ _ _ _ _ _ hh)
   have m7:=sQ ty e i hu hi ad len cap lj ys.length af _ m.w (m.w.setRow g o0) o.type hf (λ b' k6=>by
    rw[jf]at k6;obtain rfl:(⟨g,off*a7,none⟩:Addr)=b':=by simpa using k6
    exact j6) (λ hn=>by rw[jf]at hn;cases hn)
   exact JP (sS j8 (by rw[w7,oz];exact m7)) (hK _ ⟨m.ν,_,m.w.setRow g o0⟩ rfl k1 k2 (LB _ _))
structure GT (P:Program) (num:Nat->Nat) (C:Cl):Prop where
 tf : ∀ (f:Nat) (vs:List AV) (r:AV),C.pure f vs=some r -> ∀ (us:Array Value) (w:World),(callFunc (num f) us).run P w = .ok (.enter (num f) us) w
 od : ∀ (f:Nat) (vs:List AV) (own:AH) (r:AV × AH),C.gp f vs own=some r -> ∀ (us:Array Value) (w:World),(callFunc (num f) us).run P w = .ok (.enter (num f) us) w
 pure : ∀ (f:Nat) (vs:List AV) (r:AV),C.pure f vs=some r -> ∀ (S:Nat->Prop) (w:World) (us:List Value),vs.length=us.length->(∀ (j:Nat) (c:AV) (v:Value),vs[j]? = some c->us[j]? = some v->CA w.heap.size S ⟨λ_ _=>none,AH.emp,w⟩ c v) ->
  Calls P (num f) us.toArray w λ e w' => ∃ u,e = .returned u/\Below w.heap.size w w'/\CV w.heap.size S ⟨λ_ _=>none,AH.emp,w'⟩ r u/\A4 r
 gp : ∀ (f:Nat) (vs:List AV) (own:AH) (r:AV) (l8:AH),C.gp f vs own=some (r,l8) -> ∀ (B:Nat) (S:Nat->Prop) (w0:World) (m:M) (us:List Value),m.own=own->BP B S w0 m->vs.length=us.length->(∀ (j:Nat) (c:AV) (v:Value),vs[j]? = some c->us[j]? = some v->CV B S m c v) ->
  Calls P (num f) us.toArray m.w λ e w' => ∃ u m',e = .returned u/\m'.w=w'/\m'.own=l8/\BP B S w0 m'/\DG B S m m'/\CV B S m' r u
 num:C.num=num
end
end Go.c5

namespace Go.c5
open Go.RowKit
theorem PL {α β:Type} (f:α->Option β) : ∀ {l:List α} {l':List β},l.mapM f=some l'->l.length=l'.length /\ ∀ (i:Nat) (x:α),l[i]? = some x -> ∃ y,l'[i]? = some y/\f x=some y
 | [],l',h=>by
  simp at h;subst h;exact ⟨rfl,λ i x hx=>by simp at hx⟩
 | x::r,l',h=>by
  simp only[List.mapM_cons,Option.bind_eq_bind,Option.pure_def]at h;cases hx:f x with
  | none=>simp [hx]at h
  | some y =>
   cases hr:r.mapM f with
   | none=>simp [hx,hr]at h
   | some r' =>
    simp [hx,hr]at h;subst h;obtain ⟨h1,h2⟩:=PL f hr;refine ⟨by simp [h1],λ i z hz => ?_⟩;cases i with
    | zero=>simp at hz;subst hz;exact ⟨y,rfl,hx⟩
    | succ i=>exact h2 i z (by simpa using hz)
section
variable {B:Nat} {S:Nat->Prop} {w0:World} {m:M}
variable {P:Program} {num:Nat->Nat} {o:Oper} {a:Act} {ρ:AP->AV}
theorem tU (hm:BP B S w0 m) (l0:Bool) (R:Bool->Nat->Prop) (hR : ∀ l b,b<m.w.heap.size->safe B S m l b->R l b) (hL : ∀ s t g,live m s t->m.ν s t=some g->R l0 g) :
  ∀ (d:Nat) (c c':AV) (v:Value),snap m.own l0 d c=some c'->CC B S m c v->Rd m.w R c' v:=by
 intro d;induction d with
 | zero =>
  intro c c' v h hc;cases hc with
  | rd hr =>
   have:c'=c:=by cases hr<;>simp [snap]at h<;>exact h.symm
   subst this;exact hr.mono hR (λ_ _ _ _=>rfl)
  | nil=>simp [snap]at h;subst h;exact .jc _ _ _
  | _=>simp [snap]at h
 | succ d ih =>
  intro c c' v h hc;cases hc with
  | rd hr =>
   have:c'=c:=by cases hr<;>simp [snap]at h<;>exact h.symm
   subst this;exact hr.mono hR (λ_ _ _ _=>rfl)
  | nil=>simp [snap]at h;subst h;exact .jc _ _ _
  | ptr=>simp [snap]at h
  | o7=>simp [snap]at h
  | row s t z off len ad cap ht cp mi ha hb =>
   simp only[snap]at h;cases ag:EA m.own (.row s t z off len) with
   | none=>simp [ag]at h
   | some es =>
    simp only[ag]at h;cases ix:es.mapM (λ cs:List AV=>cs.mapM (snap m.own l0 d)) with
    | none=>simp [ix]at h
    | some es' =>
     simp [ix]at h;subst h;have Nb:(∀ e∈es,e.length=z)/\es.length=len /\ ∃ b,m.own.get s t=some b:=by
      simp only[EA]at ag;cases l7:m.own.get s t with
      | none=>simp [l7]at ag
      | some b =>
       simp only[l7]at ag;split at ag
       ·rename_i hle
        obtain rfl:=Option.some.inj ag;refine ⟨λ e he => ?_,by simp;omega,b,rfl⟩;rw[<-hle.2];exact (hm.e8 s t b l7).1 e (List.mem_of_mem_drop (List.mem_of_mem_take he))
       ·cases ag
     obtain ⟨hz,hlen,b,l7⟩:=Nb;have s8:CV B S m (.row s t z off len) (.slice ad len cap):= .ca (.one (.row s t z off len ad cap ht cp mi ha hb));obtain ⟨ad2,Io,news,Hw,hE⟩:=U6 hm s8 ag hz cp;obtain ⟨rfl,_,rfl⟩:ad=ad2/\len=es.length/\cap=Io:=by simpa using Hw
     obtain ⟨ji,tv⟩:=PL _ ix;by_cases h0:es=[]
     ·subst h0
      have:es'=[]:=List.eq_nil_of_length_eq_zero (by rw[<-ji];rfl)
      subst this;have:len=0:=by rw[<-hlen];rfl
      subst this;exact .jc _ _ _
     ·obtain ⟨_,z7⟩:=hb b l7
      rcases z7 with ⟨Amd,_⟩|⟨g,arr,e',hg,jf,hh,Eh⟩
      ·exact absurd (List.eq_nil_of_length_eq_zero (by omega)) h0
      ·rw[jf,<-hlen,ji]
       refine .sl l0 es' g (off*z) z cap (λ i j=>news.getD (i*z+j) undef) (λ e=>h0 (List.eq_nil_of_length_eq_zero (by rw[ji,e];rfl))) cp (hL s t g ⟨b,l7⟩ hg) (by omega) (λ e' iw => ?_) (λ i e hi j c hj => ?_) (λ i e hi j c hj => ?_)
       ·obtain ⟨i,hi,rfl⟩:=List.getElem_of_mem iw
        have m5:i<es.length:=by omega
        obtain ⟨y,hy,gd⟩:=tv i es[i] (zE m5);have:es'[i]=y:=by
         have:=(zS hy).2;exact this
        rw[this,<-(PL _ gd).1];exact hz _ (List.getElem_mem m5)
       ·have m5:i<es.length:=by rw[ji];exact (zS hi).1
        obtain ⟨y,hy,gd⟩:=tv i es[i] (zE m5);rw[hi]at hy;obtain rfl:e=y:=by simpa using hy
        obtain ⟨fj,_⟩:=PL _ gd;have Co:j<(es[i]).length:=by rw[fj];exact (zS hj).1
        obtain ⟨u,hu,br⟩:=hE.rel i es[i] (zE m5) j _ (zE Co);have:=hE.cells _ jf (i*z+j) u hu
        rw[G7]at this;simp only[List.getD,hu,Option.getD_some];exact this
       ·have m5:i<es.length:=by rw[ji];exact (zS hi).1
        obtain ⟨y,hy,gd⟩:=tv i es[i] (zE m5);rw[hi]at hy;obtain rfl:e=y:=by simpa using hy
        obtain ⟨fj,jg⟩:=PL _ gd;have Co:j<(es[i]).length:=by rw[fj];exact (zS hj).1
        obtain ⟨u,hu,br⟩:=hE.rel i es[i] (zE m5) j _ (zE Co);obtain ⟨c2,px,mn⟩:=jg j _ (zE Co);rw[hj]at px;obtain rfl:c=c2:=by simpa using px
        simp only[List.getD,hu,Option.getD_some];exact ih _ _ _ mn br
def DA (w:World) (R:Bool->Nat->Prop) (c:AV) (v:Value):Prop :=
 Rd w R c v \/ ∃ (cs:List AV) (vs:List Value),c = .agg cs/\v = .agg vs.toArray/\cs.length=vs.length /\ ∀ (j:Nat) (x:AV) (u:Value),cs[j]? = some x->vs[j]? = some u->Rd w R x u
theorem ZU (hm:BP B S w0 m) (l0:Bool) (R:Bool->Nat->Prop) (hR : ∀ l b,b<m.w.heap.size->safe B S m l b->R l b) (hL : ∀ s t g,live m s t->m.ν s t=some g->R l0 g)
  {c c':AV} {v:Value} (h:C7 m.own l0 c=some c') (hc:CV B S m c v):DA m.w R c' v:=by
 cases hc with
 | any v=>simp [C7,snap]at h
 | g7=>simp [C7,snap]at h
 | ca hc=>cases hc with
  | one hc =>
   have h':snap m.own l0 6 c=some c':=by
    cases hc with
    | rd hr=>cases hr<;>simpa [C7] using h
    | _=>simpa [C7] using h
   exact Or.inl (tU hm l0 R hR hL 6 c c' v h' hc)
  | fn=>simp [C7,snap]at h
  | rj=>simp [C7,snap]at h
  | agg cs vs m8 =>
   simp only[C7]at h;cases gv:cs.mapM (snap m.own l0 6) with
   | none=>simp [gv]at h
   | some dw =>
    simp [gv]at h;subst h;obtain ⟨h1,h2⟩:=PL _ gv;refine Or.inr ⟨dw,vs,rfl,rfl,h1.symm.trans m8.1,λ j x u hx hu => ?_⟩;have hj:j<cs.length:=by rw[h1];exact (zS hx).1
    obtain ⟨y,hy,gd⟩:=h2 j cs[j] (zE hj);rw[hx]at hy;obtain rfl:x=y:=by simpa using hy
    exact tU hm l0 R hR hL 6 _ _ _ gd (m8.2 j cs[j] u (zE hj) hu)
def DV (w:World) (R:Bool->Nat->Prop) (c:AV) (v:Value):Prop :=
 DA w R c v \/ ∃ (cs:List AV) (vs:List Value),c = .g7 cs/\v = .tuple vs.toArray/\cs.length=vs.length /\ ∀ (j:Nat) (x:AV) (u:Value),cs[j]? = some x->vs[j]? = some u->DA w R x u
theorem Agw (hm:BP B S w0 m) (l0:Bool) (R:Bool->Nat->Prop) (hR : ∀ l b,b<m.w.heap.size->safe B S m l b->R l b) (hL : ∀ s t g,live m s t->m.ν s t=some g->R l0 g)
  {c c':AV} {v:Value} (h:QW m.own l0 c=some c') (hc:CV B S m c v):DV m.w R c' v:=by
 by_cases ht : ∃ cs,c = .g7 cs
 ·obtain ⟨cs,rfl⟩:=ht
  obtain ⟨vs,rfl,hl,u6⟩:=bJ hc;simp only[QW]at h;cases gv:cs.mapM (C7 m.own l0) with
  | none=>simp [gv]at h
  | some dw =>
   simp [gv]at h;subst h;obtain ⟨h1,h2⟩:=PL _ gv;refine Or.inr ⟨dw,vs,rfl,rfl,h1.symm.trans hl,λ j x u hx hu => ?_⟩;have hj:j<cs.length:=by rw[h1];exact (zS hx).1
   obtain ⟨y,hy,gd⟩:=h2 j cs[j] (zE hj);rw[hx]at hy;obtain rfl:x=y:=by simpa using hy
   exact ZU hm l0 R hR hL gd (.ca (u6 j cs[j] u (zE hj) hu))
 ·have h':C7 m.own l0 c=some c':=by
   cases c<;>first|exact h|exact absurd ⟨_,rfl⟩ ht
  exact Or.inl (ZU hm l0 R hR hL h' hc)
theorem DA.ca {B:Nat} {S:Nat->Prop} {m:M} {c:AV} {v:Value} (h:DA m.w (safe B S m) c v):CA B S m c v:=by
 rcases h with h|⟨cs,vs,rfl,rfl,hl,hh⟩
 ·exact .one (.rd h)
 ·exact .agg cs vs ⟨hl,λ j x u hx hu => .rd (hh j x u hx hu)⟩
theorem DV.cv {B:Nat} {S:Nat->Prop} {m:M} {c:AV} {v:Value} (h:DV m.w (safe B S m) c v):CV B S m c v:=by
 rcases h with h|⟨cs,vs,rfl,rfl,hl,hh⟩
 ·exact .ca h.ca
 ·exact .g7 cs vs hl λ j x u hx hu=>(hh j x u hx hu).ca
theorem OM : ∀ {cs:List AV},CW cs -> ∀ (j:Nat) (c:AV),cs[j]? = some c->A4 c
 | [],_,j,c,h=>by simp at h
 | x::r,hc,j,c,h=>by
  unfold CW at hc;cases j with
  | zero=>simp at h;subst h;exact hc.1
  | succ j=>exact OM hc.2 j c (by simpa using h)
theorem X1 : ∀ {cs:List (List AV)},F5 cs -> ∀ (j:Nat) (c:List AV),cs[j]? = some c->CW c
 | [],_,j,c,h=>by simp at h
 | x::r,hc,j,c,h=>by
  unfold F5 at hc;cases j with
  | zero=>simp at h;subst h;exact hc.1
  | succ j=>exact X1 hc.2 j c (by simpa using h)
theorem Rd.clean {w:World} {R R':Bool->Nat->Prop} (hR : ∀ b,b<w.heap.size->R false b->R' false b) {c:AV} {v:Value} (h:Rd w R c v) (hc:A4 c):Rd w R' c v:=by
 induction h with
 | int k n=>exact .int k n
 | bool b=>exact .bool b
 | str s=>exact .str s
 | jc l a cap=>exact .jc l a cap
 | emp b a cap h=>exact .emp b a cap h
 | sl l es b o a7 cap u k9 hp h1 v9 hz m8 hr ih =>
  unfold A4 at hc;obtain ⟨rfl,hc⟩:=hc;obtain ⟨e,c,he,gb⟩:=VN k9 hp hz;have hb:b<w.heap.size:=RD (m8 0 e he 0 c gb);exact .sl false es b o a7 cap u k9 hp (hR b hb h1) v9 hz m8 λ i e he j c hj=>ih i e he j c hj (OM (X1 hc i e he) j c hj)
theorem DA.clean {w:World} {R R':Bool->Nat->Prop} (hR : ∀ b,b<w.heap.size->R false b->R' false b) {c:AV} {v:Value} (h:DA w R c v) (hc:A4 c):DA w R' c v:=by
 rcases h with h|⟨cs,vs,rfl,rfl,hl,hh⟩
 ·exact Or.inl (h.clean hR hc)
 ·unfold A4 at hc
  exact Or.inr ⟨cs,vs,rfl,rfl,hl,λ j x u hx hu=>(hh j x u hx hu).clean hR (OM hc j x hx)⟩
theorem DV.clean {w:World} {R R':Bool->Nat->Prop} (hR : ∀ b,b<w.heap.size->R false b->R' false b) {c:AV} {v:Value} (h:DV w R c v) (hc:A4 c):DV w R' c v:=by
 rcases h with h|⟨cs,vs,rfl,rfl,hl,hh⟩
 ·exact Or.inl (h.clean hR hc)
 ·unfold A4 at hc
  exact Or.inr ⟨cs,vs,rfl,rfl,hl,λ j x u hx hu=>(hh j x u hx hu).clean hR (OM hc j x hx)⟩
theorem bI {B:Nat} {S:Nat->Prop} {m:M} {c:AV} {v:Value} (h:CV B S m c v) (hc:A4 c):DV m.w (safe B S m) c v:=by
 have one : ∀ {c:AV} {v:Value},CC B S m c v->A4 c->Rd m.w (safe B S m) c v:=λ h hc=>by
  cases h with
  | rd h=>exact h
  | _=>unfold A4 at hc;exact hc.elim
 have ca : ∀ {c:AV} {v:Value},CA B S m c v->A4 c->DA m.w (safe B S m) c v:=λ h hc=>by
  cases h with
  | one h=>exact Or.inl (one h hc)
  | fn=>unfold A4 at hc;exact hc.elim
  | rj=>unfold A4 at hc;exact hc.elim
  | agg cs vs h =>
   unfold A4 at hc;exact Or.inr ⟨cs,vs,rfl,rfl,h.1,λ j x u hx hu=>one (h.2 j x u hx hu) (OM hc j x hx)⟩
 cases h with
 | any v=>unfold A4 at hc;exact hc.elim
 | ca h=>exact Or.inl (ca h hc)
 | g7 as vs hl h =>
  unfold A4 at hc;exact Or.inr ⟨as,vs,rfl,rfl,hl,λ j x u hx hu=>ca (h j x u hx hu) (OM hc j x hx)⟩
theorem ZL {f:Nat} {xs:Array Operand} {ts:Array TypeId} (j8:o.op = .call ⟨.value (.func f),xs,ts⟩) {w:World} (h:(callFunc f (xs.map a.eval)).run P w = .ok (.enter f (xs.map a.eval)) w):(execOp a.eval o).run P w = .ok (.enter f (xs.map a.eval)) w:=by
 simp [execOp,j8,resolve,Deferred.ofValue,Act.eval,invoke];exact h
theorem lY {C:Cl} (hC:GT P num C) (hm:BP B S w0 m) {f:Nat} {us:List Value} {as:List AV} (hl:us.length=as.length) (hx : ∀ (j:Nat) (v:Value) (c:AV),us[j]? = some v->as[j]? = some c->CV B S m c v) (hex : ∀ w:World,(callFunc (num f) us.toArray).run P w = .ok (.enter (num f) us.toArray) w->(execOp a.eval o).run P w = .ok (.enter (num f) us.toArray) w) {vs:List AV} {r:AV} (hv:as.mapM (C7 m.own true)=some vs) (hr:C.pure f vs=some r):CS B S w0 P o a m (.val r):=by
 obtain ⟨fj,jg⟩:=PL _ hv;have jz : ∀ (j:Nat) (c:AV) (v:Value),vs[j]? = some c->us[j]? = some v->CA m.w.heap.size (safe B S m false) ⟨λ_ _=>none,AH.emp,m.w⟩ c v:=by
  intro j c v hc sf;have aj:j<as.length:=by rw[<-hl];exact (zS sf).1
  obtain ⟨y,hy,gd⟩:=jg j as[j] (zE aj);rw[hc]at hy;obtain rfl:c=y:=by simpa using hy
  have s8:=hx j v as[j] sf (zE aj);have rl:=ZU hm true (safe m.w.heap.size (safe B S m false) ⟨λ_ _=>none,AH.emp,m.w⟩) (λ l b hb xo=>by
   cases l with
   | false=>exact .inl ⟨xo,hb⟩
   | true=>exact .inr (.inr ⟨rfl,hb⟩)) (λ s t g jr hg=>by
   obtain ⟨_,arr,e,hh⟩:=hm.ge jr hg;exact .inr (.inr ⟨rfl,(Array.getElem?_eq_some_iff.1 hh).1⟩)) gd s8
  exact DA.ca (m:=⟨λ_ _=>none,AH.emp,m.w⟩) rl
 have fb:=hC.pure f vs r hr (safe B S m false) m.w us (by rw[<-fj];exact hl.symm) jz;intro K Q hK;unfold Oper.wp;rw[hex _ (hC.tf f vs r hr _ _)];refine Calls.mono fb λ e w' ⟨u,iw,iu,s8,m8⟩ => ?_
 subst iw;obtain ⟨lu,fr⟩:=grow hm iu;refine hK u ⟨m.ν,m.own,w'⟩ rfl lu fr ?_;refine DV.cv (m:=⟨m.ν,m.own,w'⟩) ((bI s8 m8).clean (λ b hb xo => ?_) m8);rcases xo with ⟨h1,h2⟩|⟨h1,_⟩|⟨h1,_⟩
 ·exact fr.zu false b h2 h1
 ·refine .inr (.inl ⟨Nat.le_trans hm.size h1,λ s t jr hg => ?_⟩)
  obtain ⟨b',k6⟩:=Option.isSome_iff_exists.1 jr;obtain ⟨_,arr,e,hh⟩:=hm.ge ⟨b',k6⟩ hg;have:=(Array.getElem?_eq_some_iff.1 hh).1
  omega
 ·cases h1
theorem lX {C:Cl} (hC:GT P num C) (hm:BP B S w0 m) (hs:CN B S m ρ a.eval) {f:Nat} {xs:Array Operand} {n0:List AP} (he:ED xs.toList n0=true) (hex : ∀ w:World,(callFunc (num f) (xs.map a.eval)).run P w = .ok (.enter (num f) (xs.map a.eval)) w->(execOp a.eval o).run P w = .ok (.enter (num f) (xs.map a.eval)) w) {vs:List AV} {r:AV} (hv:(n0.map ρ).mapM (C7 m.own true)=some vs) (hr:C.pure f vs=some r):CS B S w0 P o a m (.val r):=by
 obtain ⟨hl,hx⟩:=RL hs he;have ft:(xs.map a.eval)=(xs.toList.map a.eval).toArray:=by cases xs;simp
 rw[ft]at hex;refine lY hC hm (us:=xs.toList.map a.eval) (as:=n0.map ρ) (by simp [hl]) (λ j v c h1 h2 => ?_) hex hv hr;rw[List.getElem?_map]at h1 h2;cases kf:xs.toList[j]? with
 | none=>simp [kf]at h1
 | some x =>
  cases np:n0[j]? with
  | none=>simp [np]at h2
  | some y =>
   simp only[kf,np,Option.map_some,Option.some.injEq]at h1 h2;subst h1 h2;exact hx j x y kf np
theorem Vy {C:Cl} (hC:GT P num C) (hm:BP B S w0 m) (hs:CN B S m ρ a.eval) {f:Nat} {n0:List AP} (h:A8 P num o.op (.call f n0)=true) {vs:List AV} {r:AV} (hv:(n0.map ρ).mapM (C7 m.own true)=some vs) (hr:C.pure f vs=some r):CS B S w0 P o a m (.val r):=by
 obtain ⟨xs,ts,j8,he⟩:=dH h;exact lX hC hm hs he (λ w h=>ZL j8 h) hv hr
theorem lT {C:Cl} (hC:GT P num C) (hm:BP B S w0 m) (hs:CN B S m ρ a.eval) {f:Nat} {n0:List AP} (h:A8 P num o.op (.e9 f n0)=true) {r:AV} {l8:AH} (hr:C.gp f (n0.map ρ) m.own=some (r,l8)):CS B S w0 P o a m (.bu r l8):=by
 obtain ⟨xs,ts,j8,he⟩:=Aek h;obtain ⟨hl,hx⟩:=RL hs he;have ft:(xs.map a.eval)=(xs.toList.map a.eval).toArray:=by cases xs;simp
 have fb:=hC.gp f (n0.map ρ) m.own r l8 hr B S w0 m (xs.toList.map a.eval) rfl hm (by simp [hl]) (λ j c v hc hv=>by
  rw[List.getElem?_map]at hc hv;cases kf:xs.toList[j]? with
  | none=>simp [kf]at hv
  | some x =>
   cases np:n0[j]? with
   | none=>simp [np]at hc
   | some y =>
    simp [kf]at hv;simp [np]at hc;subst hv hc;exact hx j x y kf np)
 intro K Q hK;unfold Oper.wp;rw[ZL j8 (hC.od f _ _ _ hr _ _),ft];refine Calls.mono fb λ e w' ⟨u,m',iw,hw,j9,lu,fr,s8⟩ => ?_
 subst iw hw;exact hK u m' j9 lu fr s8
theorem zH (hm:BP B S w0 m) {w':World} (hb:Below m.w.heap.size m.w w') (s:Nat) (b:DT) (gg:Option Nat) (hz : ∀ x∈b.es,x.length=b.a7)
  (hg:match gg with|none=>b.es=[]|some g=>m.w.heap.size<=g /\ ∃ arr e,w'.heap[g]? = some (.cells arr e (0,0)) /\ ∀ i cs,b.es[i]? = some cs -> ∀ j c,cs[j]? = some c -> ∃ u,arr[i*b.a7+j]? = some u/\CC B S ⟨j4 m s gg,m.own.put s ((m.own s).new b),w'⟩ c u) :
  BP B S w0 ⟨j4 m s gg,m.own.put s ((m.own s).new b),w'⟩/\DG B S m ⟨j4 m s gg,m.own.put s ((m.own s).new b),w'⟩:=by
 have hν : ∀ s' t',live m s' t'->j4 m s gg s' t'=m.ν s' t':=λ s' t' hl=>by
  unfold j4;rw[if_neg];rintro ⟨rfl,rfl⟩
  exact Y2 hm _ hl
 have jq : ∀ g,gg=some g->m.w.heap.size<=g:=λ g e=>by subst e;exact hg.1
 have he:DG B S m ⟨j4 m s gg,m.own.put s ((m.own s).new b),w'⟩:=by
  refine RN hm hb.size (λ k hk _=>hb.block k hk) (λ s' => ?_) (λ s' t' b' ht k6 => ?_) (λ s' t' g hl ct k7 => ?_)
  ·rw[KM];split
   ·rename_i h;subst h;omega
   ·exact Nat.le_refl _
  ·rw[FY]at k6
   rw[if_neg (by rintro ⟨rfl,rfl⟩;omega)]at k6;refine ⟨b',k6,rfl,hν s' t' ⟨b',k6⟩,λ g ar e' ct ha=>⟨ar,?_,rfl⟩⟩;exact (hb.block g (Array.getElem?_eq_some_iff.1 ha).1).trans ha
  ·obtain ⟨b',k6⟩:=hl
   rw[FY]at k6;by_cases h:s'=s/\t'=m.own.g9 s
   ·simp only[j4,if_pos h]at ct
    have:=jq g ct
    omega
   ·rw[if_neg h]at k6
    exact ⟨s',t',⟨b',k6⟩,by rw[<-hν s' t' ⟨b',k6⟩];exact ct⟩
 refine ⟨⟨hm.below.trans (hb.mono hm.size),Nat.le_trans hm.size hb.size,λ s' t' ht => ?_,λ s' t' b' k6 => ?_,λ s1 t1 s2 t2 b1 b2 g h1 h2 g1 g2 => ?_⟩,he⟩
 ·rw[KM]at ht
  rw[FY,if_neg]
  ·refine hm.fresh s' t' ?_
   split at ht
   ·rename_i h;subst h;omega
   ·exact ht
  ·rintro ⟨rfl,rfl⟩
   simp at ht;omega
 ·rw[FY]at k6
  by_cases h:s'=s/\t'=m.own.g9 s
  ·rw[if_pos h]at k6
   obtain rfl:b=b':=by simpa using k6
   refine ⟨hz,?_⟩;show match j4 m s gg s' t' with|none=>_|some g=>_
   rw[show j4 m s gg s' t'=gg by simp [j4,h]];cases gg with
   | none=>exact hg
   | some g=>exact ⟨Nat.le_trans hm.size hg.1,hg.2⟩
  ·rw[if_neg h]at k6
   obtain ⟨h1,h2⟩:=hm.e8 s' t' b' k6;refine ⟨h1,?_⟩;show match j4 m s gg s' t' with|none=>_|some g=>_
   rw[hν s' t' ⟨b',k6⟩];cases hv:m.ν s' t' with
   | none=>rw[hv]at h2;exact h2
   | some g =>
    rw[hv]at h2;obtain ⟨h3,ar,e',h4,h5⟩:=h2;refine ⟨h3,ar,e',(hb.block g (Array.getElem?_eq_some_iff.1 h4).1).trans h4,λ i cs hi j c hj => ?_⟩;obtain ⟨u,hu,u6⟩:=h5 i cs hi j c hj;exact ⟨u,hu,he.cc u6⟩
 ·rw[FY]at h1 h2
  have lt : ∀ s' t' b',m.own.get s' t'=some b'->j4 m s gg s' t'=some g->g<m.w.heap.size:=λ s' t' b' k6 ct=>by
   rw[hν s' t' ⟨b',k6⟩]at ct;obtain ⟨_,ar,e',h4⟩:=hm.ge ⟨b',k6⟩ ct;exact (Array.getElem?_eq_some_iff.1 h4).1
  have at_ : ∀ s' t',s'=s/\t'=m.own.g9 s->j4 m s gg s' t'=some g->m.w.heap.size<=g:=λ s' t' h ct=>by
   simp only[j4,if_pos h]at ct;exact jq g ct
  by_cases p1:s1=s/\t1=m.own.g9 s<;>by_cases p2:s2=s/\t2=m.own.g9 s
  ·exact ⟨p1.1.trans p2.1.symm,p1.2.trans p2.2.symm⟩
  ·rw[if_neg p2]at h2
   have:=lt s2 t2 b2 h2 g2
   have:=at_ s1 t1 p1 g1
   omega
  ·rw[if_neg p1]at h1
   have:=lt s1 t1 b1 h1 g1
   have:=at_ s2 t2 p2 g2
   omega
  ·rw[if_neg p1]at h1
   rw[if_neg p2]at h2;exact hm.inj s1 t1 s2 t2 b1 b2 g h1 h2 (by rw[<-hν s1 t1 ⟨b1,h1⟩];exact g1) (by rw[<-hν s2 t2 ⟨b2,h2⟩];exact g2)
theorem Wc {C:Cl} (hC:GT P num C) (hm:BP B S w0 m) (hs:CN B S m ρ a.eval) {s f:Nat} {n0:List AP} (h:A8 P num o.op (.o9 s f n0)=true) {vs:List AV} (hv:(n0.map ρ).mapM (OZ m.own true)=some vs) {z:Nat} {es:List (List AV)} (hr:OH (C.gp f vs AH.emp)=some (z,es)) :
  CS B S w0 P o a m (.new s ⟨z,es⟩ (λ t => .row s t z 0 es.length)):=by
 obtain ⟨xs,ts,j8,he⟩:=dH (Aem h);obtain ⟨s0,t0,o',b0,Pq,l7,rfl,m8⟩:=zG hr;obtain ⟨hl,hx⟩:=RL hs he;obtain ⟨fj,jg⟩:=PL _ hv;have ft:(xs.map a.eval)=(xs.toList.map a.eval).toArray:=by cases xs;simp
 have jz : ∀ (j:Nat) (c:AV) (v:Value),vs[j]? = some c->(xs.toList.map a.eval)[j]? = some v->CV m.w.heap.size (safe B S m false) ⟨λ_ _=>none,AH.emp,m.w⟩ c v:=by
  intro j c v hc sf;rw[List.getElem?_map]at sf;cases kf:xs.toList[j]? with
  | none=>simp [kf]at sf
  | some x =>
   simp [kf]at sf;subst sf;have aj:j<n0.length:=by rw[<-hl];exact (zS kf).1
   obtain ⟨y,hy,gd⟩:=jg j (ρ n0[j]) (by rw[List.getElem?_map,zE aj];rfl);rw[hc]at hy;obtain rfl:c=y:=by simpa using hy
   have s8:=hx j x n0[j] kf (zE aj);have hN:(ρ n0[j] = .nil/\c = .nil)\/C7 m.own true (ρ n0[j])=some c:=by
    cases e:ρ n0[j] with
    | nil=>rw[e]at gd;exact .inl ⟨rfl,(Option.some.inj gd).symm⟩
    | _=>rw[e]at gd;exact .inr gd
   rcases hN with ⟨e1,rfl⟩|gd
   ·rw[e1]at s8
    rw[PE s8];exact .ca (.one .nil)
   have rl:=ZU hm true (safe m.w.heap.size (safe B S m false) ⟨λ_ _=>none,AH.emp,m.w⟩) (λ l b hb xo=>by
    cases l with
    | false=>exact .inl ⟨xo,hb⟩
    | true=>exact .inr (.inr ⟨rfl,hb⟩)) (λ s t g jr hg=>by
    obtain ⟨_,arr,e,hh⟩:=hm.ge jr hg;exact .inr (.inr ⟨rfl,(Array.getElem?_eq_some_iff.1 hh).1⟩)) gd s8
   exact .ca (DA.ca (m:=⟨λ_ _=>none,AH.emp,m.w⟩) rl)
 have hm0:BP m.w.heap.size (safe B S m false) m.w ⟨λ_ _=>none,AH.emp,m.w⟩:=⟨Below.refl _ _,Nat.le_refl _,λ_ _ _=>rfl,(λ s t b h=>by cases h),(λ_ _ _ _ _ _ _ h=>by cases h)⟩;have fb:=hC.gp f vs AH.emp _ o' Pq m.w.heap.size (safe B S m false) m.w ⟨λ_ _=>none,AH.emp,m.w⟩ (xs.toList.map a.eval) rfl hm0 (by rw[<-fj];simp [hl]) jz;intro K Q hK;unfold Oper.wp;rw[ZL j8 (hC.od f _ _ _ Pq _ _),ft];refine Calls.mono fb λ e w' ⟨u,m',iw,hw,j9,lu,Pf,s8⟩ => ?_
 subst iw hw;have iu:Below m.w.heap.size m.w m'.w:=lu.below;rw[<-j9]at l7;obtain ⟨hz,mb⟩:=lu.e8 s0 t0 b0 l7;obtain ⟨ad,cap,rfl,ht,cp,mi,ha,hb⟩:=RH s8;obtain ⟨du,z7⟩:=hb b0 l7;subst du;have hold : ∀ s t g,live m s t->m.ν s t=some g->g<m.w.heap.size:=λ s t g jr hg=>by
  obtain ⟨_,arr,e,hh⟩:=hm.ge jr hg;exact (Array.getElem?_eq_some_iff.1 hh).1
 have Be : ∀ s' t' g,live ⟨j4 m s (m'.ν s0 t0),m.own.put s ((m.own s).new ⟨b0.a7,b0.es⟩),m'.w⟩ s' t'->j4 m s (m'.ν s0 t0) s' t'=some g->g<m.w.heap.size\/m'.ν s0 t0=some g:=λ s' t' g jr hg=>by
  obtain ⟨b',k6⟩:=jr;rw[FY]at k6;by_cases j6:s'=s/\t'=m.own.g9 s
  ·simp only[j4,if_pos j6]at hg
   exact Or.inr hg
  ·rw[if_neg j6]at k6
   simp only[j4,if_neg j6]at hg;exact Or.inl (hold s' t' g ⟨b',k6⟩ hg)
 have hR : ∀ b,b<m'.w.heap.size->safe m.w.heap.size (safe B S m false) m' false b->safe B S ⟨j4 m s (m'.ν s0 t0),m.own.put s ((m.own s).new ⟨b0.a7,b0.es⟩),m'.w⟩ false b:=λ b wv xo=>by
  rcases xo with ⟨h1,h2⟩|⟨h1,h2⟩|⟨h1,_⟩
  ·rcases h1 with h1|⟨h1,h3⟩|⟨h1,_⟩
   ·exact .inl h1
   ·refine .inr (.inl ⟨h1,λ s' t' jr hg => ?_⟩)
    obtain ⟨b',k6⟩:=Option.isSome_iff_exists.1 jr;have q5:=k6;rw[FY]at q5;by_cases j6:s'=s/\t'=m.own.g9 s
    ·simp only[j4,if_pos j6]at hg
     rw[hg]at mb;have:=mb.1
     omega
    ·rw[if_neg j6]at q5
     simp only[j4,if_neg j6]at hg;exact h3 s' t' (by rw[q5];rfl) hg
   ·cases h1
  ·refine .inr (.inl ⟨Nat.le_trans hm.size h1,λ s' t' jr hg => ?_⟩)
   rcases Be s' t' b (Option.isSome_iff_exists.1 jr) hg with h3|h3
   ·omega
   ·exact h2 s0 t0 (by rw[l7];rfl) h3
  ·cases h1
 obtain ⟨gn,fr⟩:=zH hm iu s ⟨b0.a7,b0.es⟩ (m'.ν s0 t0) hz (by
  cases hν:m'.ν s0 t0 with
  | none=>rw[hν]at mb;exact mb
  | some g =>
   rw[hν]at mb hR;obtain ⟨h1,arr,e,h2,h3⟩:=mb;refine ⟨h1,arr,e,h2,λ i cs hi j c hj => ?_⟩;obtain ⟨u,hu,u6⟩:=h3 i cs hi j c hj;refine ⟨u,hu,.rd ?_⟩;have tl:=OM (X1 m8 i cs hi) j c hj;have lv:Rd m'.w (safe m.w.heap.size (safe B S m false) m') c u:=by
    cases u6 with
    | rd h=>exact h
    | _=>unfold A4 at tl;exact tl.elim
   exact lv.clean hR tl)
 refine hK _ ⟨j4 m s (m'.ν s0 t0),m.own.put s ((m.own s).new ⟨b0.a7,b0.es⟩),m'.w⟩ rfl gn fr (.ca (.one (.row s (m.own.g9 s) b0.a7 0 b0.es.length ad cap (by show m.own.g9 s<AH.g9 (m.own.put s _) s;rw[KM,if_pos rfl];omega) cp mi ha λ b1 og => ?_)));have wu:(m.own.put s ((m.own s).new ⟨b0.a7,b0.es⟩)).get s (m.own.g9 s)=some b1:=og;rw[FY,if_pos ⟨rfl,rfl⟩]at wu;obtain rfl:=Option.some.inj wu;refine ⟨rfl,?_⟩;rcases z7 with h0|⟨g,arr,e,hg,jf,hh,hle⟩
 ·exact .inl h0
 ·exact .inr ⟨g,arr,e,by simp [j4,hg],jf,hh,hle⟩
theorem lC {p:Bool} {f g:Nat} {cs:List AV} {v:Value} (h:CV B S m (.fn p f g cs) v) (hp:p=false\/cs=[]) : ∃ vs:List Value,v = .func (.func g) #[] vs.toArray/\CL B S m cs vs:=by
 cases h with
 | ca h=>cases h with
  | one h=>cases h with
   | rd h=>cases h
  | fn p f g cs vs hp h=>exact ⟨vs,rfl,h⟩
  | rj f g cs vs k9 h =>
   rcases hp with hp|hp
   ·cases hp
   ·exact absurd hp k9
theorem Sl {f g:Nat} {cs:List AV} {v:Value} (h:CV B S m (.fn true f g cs) v) (k9:cs≠[]) : ∃ vs:List Value,v = .func (.func g) #[.agg vs.toArray] #[]/\CL B S m cs vs:=by
 cases h with
 | ca h=>cases h with
  | one h=>cases h with
   | rd h=>cases h
  | fn p f g cs vs hp h=>exact absurd (hp rfl) k9
  | rj f g cs vs k9 h=>exact ⟨vs,rfl,h⟩
theorem sR {f:Nat} {x:Operand} {xs:Array Operand} {ts:Array TypeId} {vs:Array Value} (j8:o.op = .call ⟨.value x,xs,ts⟩) (hx:a.eval x = .func (.func f) #[] vs) {w:World} (h:(callFunc f (xs.map a.eval++vs)).run P w = .ok (.enter f (xs.map a.eval++vs)) w):(execOp a.eval o).run P w = .ok (.enter f (xs.map a.eval++vs)) w:=by
 simp [execOp,j8,resolve,Deferred.ofValue,hx,invoke];exact h
theorem We {C:Cl} (hC:GT P num C) (hm:BP B S w0 m) (hs:CN B S m ρ a.eval) {x':AP} {n0:List AP} (h:A8 P num o.op (.m9 x' n0)=true) {f:Nat} {cs:List AV} (hf:ρ x' = .fn false f (num f) cs) {r:AV} {l8:AH} (hr:C.gp f (n0.map ρ++cs) m.own=some (r,l8)):CS B S w0 P o a m (.bu r l8):=by
 obtain ⟨x,xs,ts,j8,si,he⟩:=dI h;obtain ⟨hl,hx⟩:=RL hs he;obtain ⟨vs,hv,m8⟩:=lC (hf ▸ hs x x' si) (.inl rfl);have ft:(xs.map a.eval++vs.toArray)=(xs.toList.map a.eval++vs).toArray:=by cases xs;simp
 have fb:=hC.gp f (n0.map ρ++cs) m.own r l8 hr B S w0 m (xs.toList.map a.eval++vs) rfl hm (by simp [hl,m8.1]) (λ j c v hc hv=>by
  by_cases hj:j<n0.length
  ·rw[List.getElem?_append_left (by simpa using hj),List.getElem?_map]at hc
   rw[List.getElem?_append_left (by simpa [hl] using hj),List.getElem?_map]at hv;have Ps:j<xs.toList.length:=by rw[hl];exact hj
   rw[zE hj]at hc;rw[zE Ps]at hv;simp only[Option.map_some,Option.some.injEq]at hc hv;subst hc hv;exact hx j _ _ (zE Ps) (zE hj)
  ·rw[List.getElem?_append_right (by simpa using hj),List.length_map]at hc
   rw[List.getElem?_append_right (by simpa [hl] using hj),List.length_map,hl]at hv;exact .ca (.one (m8.2 _ c v hc hv)))
 intro K Q hK;unfold Oper.wp;rw[sR j8 hv (hC.od f _ _ _ hr _ _),ft];refine Calls.mono fb λ e w' ⟨u,m',iw,hw,j9,lu,fr,s8⟩ => ?_
 subst iw hw;exact hK u m' j9 lu fr s8
theorem Wa {C:Cl} (hC:GT P num C) (hm:BP B S w0 m) (hs:CN B S m ρ a.eval) {x':AP} {n0:List AP} (h:A8 P num o.op (.m9 x' n0)=true) {f:Nat} (hf:ρ x' = .fn true f (num f) []) {vs:List AV} {r:AV} (hv:(n0.map ρ).mapM (C7 m.own true)=some vs) (hr:C.pure f vs=some r):CS B S w0 P o a m (.val r):=by
 obtain ⟨x,xs,ts,j8,si,he⟩:=dI h;obtain ⟨us,hu,m8⟩:=lC (hf ▸ hs x x' si) (.inr rfl);have hu0:us=[]:=List.eq_nil_of_length_eq_zero (by rw[<-m8.1];rfl);subst hu0;refine lX hC hm hs he (λ w h => ?_) hv hr;have:=sR (P:=P) (w:=w) j8 hu (by simpa using h)
 simpa using this
theorem Af7 {f:Nat} {x:Operand} {xs:Array Operand} {ts:Array TypeId} {u:Value} (j8:o.op = .call ⟨.value x,xs,ts⟩) (hx:a.eval x = .func (.func f) #[u] #[]) {w:World} (h:(callFunc f (#[u]++xs.map a.eval)).run P w = .ok (.enter f (#[u]++xs.map a.eval)) w):(execOp a.eval o).run P w = .ok (.enter f (#[u]++xs.map a.eval)) w:=by
 simp [execOp,j8,resolve,Deferred.ofValue,hx,invoke];exact h
theorem Vz {C:Cl} (hC:GT P num C) (hm:BP B S w0 m) (hs:CN B S m ρ a.eval) {x':AP} {n0:List AP} (h:A8 P num o.op (.m9 x' n0)=true) {f:Nat} {c:AV} {cs:List AV} (hf:ρ x' = .fn true f (num f) (c::cs)) {vs:List AV} {r:AV} (hv:(AV.agg (c::cs)::n0.map ρ).mapM (C7 m.own true)=some vs) (hr:C.pure f vs=some r):CS B S w0 P o a m (.val r):=by
 obtain ⟨x,xs,ts,j8,si,he⟩:=dI h;obtain ⟨us,hu,m8⟩:=Sl (hf ▸ hs x x' si) (by simp);obtain ⟨hl,hx⟩:=RL hs he;have ft:(#[Value.agg us.toArray]++xs.map a.eval)=(Value.agg us.toArray::xs.toList.map a.eval).toArray:=by cases xs;simp
 refine lY hC hm (us:=Value.agg us.toArray::xs.toList.map a.eval) (as:=AV.agg (c::cs)::n0.map ρ) (by simp [hl]) (λ j v c' h1 h2 => ?_) (λ w h=>by
  rw[<-ft]at h ⊢;exact Af7 j8 hu h) hv hr
 cases j with
 | zero =>
  simp only[List.getElem?_cons_zero,Option.some.injEq]at h1 h2;subst h1 h2;exact .ca (.agg _ _ m8)
 | succ j =>
  rw[List.getElem?_cons_succ,List.getElem?_map]at h1 h2;cases kf:xs.toList[j]? with
  | none=>simp [kf]at h1
  | some x =>
   cases np:n0[j]? with
   | none=>simp [np]at h2
   | some y =>
    simp only[kf,np,Option.map_some,Option.some.injEq]at h1 h2;subst h1 h2;exact hx j x y kf np
theorem Us (hm:BP B S w0 m) (hs:CN B S m ρ a.eval) {f:Nat} {x':AP} (h:A8 P num o.op (.qg f x')=true) {c:AV} {cs:List AV} (hc:ρ x' = .agg (c::cs)) :
  CS B S w0 P o a m (.val (.fn true f (num f) (c::cs))):=by
 obtain ⟨x,j8,he⟩:=Aex h;obtain ⟨vs,hv,m8⟩:=U0 (hc ▸ hs x x' he);refine D7 hm (u := .func (.func (num f)) #[.agg vs.toArray] #[]) ?_ (.ca (.rj f (num f) (c::cs) vs (by simp) m8));simp [execOp,j8,Instr.makeFunc,hv]
theorem Rd.to1 {w:World} {R R':Bool->Nat->Prop} (hR : ∀ l b,b<w.heap.size->R l b -> ∀ l',R' l' b) {c:AV} {v:Value} (h:Rd w R c v) (hq:GI c=true):Rd w R' (UC c) v:=by
 cases h with
 | int k n=>exact .int k n
 | bool b=>exact .bool b
 | str s=>simp [GI]at hq
 | emp=>simp [GI]at hq
 | jc l a cap=>exact .jc false a cap
 | sl l es b o a7 cap u k9 hp h1 v9 hz m8 hr =>
  obtain ⟨e,c,he,gb⟩:=VN k9 hp hz;have hb:b<w.heap.size:=RD (m8 0 e he 0 c gb);exact .sl false es b o a7 cap u k9 hp (hR l b hb h1 false) v9 hz m8 λ i e he j c hj=>(hr i e he j c hj).mono (λ l b hb h=>hR l b hb h l) (λ_ _ _ _=>rfl)
theorem Rd.yf {w:World} {R R':Bool->Nat->Prop} (hR : ∀ b,b<w.heap.size->R false b->R' true b) {c:AV} {v:Value} (h:Rd w R c v) (hc:A4 c) (hf:UI c):Rd w R' (VX c) v:=by
 cases h with
 | int k n=>exact .int k n
 | bool b=>exact .bool b
 | str s=>exact hf.elim
 | emp=>exact hf.elim
 | jc l a cap=>exact .jc true a cap
 | sl l es b o a7 cap u k9 hp h1 v9 hz m8 hr =>
  unfold A4 at hc;obtain ⟨rfl,hc⟩:=hc;obtain ⟨e,c,he,gb⟩:=VN k9 hp hz;have hb:b<w.heap.size:=RD (m8 0 e he 0 c gb);refine .sl true es b o a7 cap u k9 hp (hR b hb h1) v9 hz m8 λ i e he j c hj => ?_
  have Lh:=hf e (zM he) c (zM hj);have Bn:=hr i e he j c hj;generalize u i j=vv at Bn ⊢;cases Bn<;>first|exact .int _ _|exact .bool _|(simp [qT]at Lh)
theorem dN : ∀ l:List AV,K6 l=l.map HC
 | []=>by simp [K6]
 | c::r=>by rw[K6,dN r];rfl
theorem qA : ∀ l:List (List AV),VV l=l.map λ e=>e.map HC
 | []=>by simp [VV]
 | c::r=>by rw[VV,qA r,dN];rfl
theorem Rd.yg {w:World} {R R':Bool->Nat->Prop} (hR : ∀ b,b<w.heap.size->R false b->R' true b) {c:AV} {v:Value} (h:Rd w R c v):A4 c->Rd w R' (HC c) v:=by
 induction h with
 | int k n=>intro _;exact .int k n
 | bool b=>intro _;exact .bool b
 | str s=>intro _;exact .str s
 | emp b a cap h=>intro _;exact .emp b a cap h
 | jc l a cap=>intro _;exact .jc true a cap
 | sl l es b o a7 cap u k9 hp h1 v9 hz m8 hr ih =>
  intro hc;unfold A4 at hc;obtain ⟨rfl,hc⟩:=hc;obtain ⟨e,c,he,gb⟩:=VN k9 hp hz;have hb:b<w.heap.size:=RD (m8 0 e he 0 c gb);have dz : ∀ (i:Nat) (e':List AV),(es.map λ e:List AV=>e.map HC)[i]? = some e' -> ∃ e,es[i]? = some e/\e'=e.map HC:=λ i e' h=>by
   rw[List.getElem?_map]at h;cases hi:es[i]? with
   | none=>simp [hi]at h
   | some e=>exact ⟨e,rfl,by simpa [hi] using h.symm⟩
  have km : ∀ (e:List AV) (j:Nat) (c':AV),(e.map HC)[j]? = some c' -> ∃ c,e[j]? = some c/\c'=HC c:=λ e j c' h=>by
   rw[List.getElem?_map]at h;cases hi:e[j]? with
   | none=>simp [hi]at h
   | some c=>exact ⟨c,rfl,by simpa [hi] using h.symm⟩
  have key:=Rd.sl (w:=w) (R:=R') true (es.map λ e:List AV=>e.map HC) b o a7 cap u (by simpa using k9) hp (hR b hb h1) (by simpa using v9)
   (λ e' iw=>by
    obtain ⟨e,he,rfl⟩:=List.mem_map.1 iw;rw[List.length_map];exact hz e he)
   (λ i e' hi j c' hj=>by
    obtain ⟨e,he,rfl⟩:=dz i e' hi;obtain ⟨c,wx,rfl⟩:=km e j c' hj;exact m8 i e he j c wx)
   (λ i e' hi j c' hj=>by
    obtain ⟨e,he,rfl⟩:=dz i e' hi;obtain ⟨c,wx,rfl⟩:=km e j c' hj;exact ih i e he j c wx (OM (X1 hc i e he) j c wx))
  rw[List.length_map]at key;rw[HC,qA];exact key
theorem Wb {C:Cl} (hC:GT P num C) (hm:BP B S w0 m) (hs:CN B S m ρ a.eval) {f:Nat} {n0:List AP} (h:A8 P num o.op (.l9 f n0)=true) (hq:(n0.map ρ).all dq=true) {r:AV} (hr:C.pure f ((n0.map ρ).map wc)=some r) (Kn:JS r\/SJ r):CS B S w0 P o a m (.val (K7 r)):=by
 obtain ⟨xs,ts,j8,he⟩:=dH (Ael h);obtain ⟨hl,hx⟩:=RL hs he;have ft:(xs.map a.eval)=(xs.toList.map a.eval).toArray:=by cases xs;simp
 have hR : ∀ l b,b<m.w.heap.size->safe B S m l b -> ∀ l',safe m.w.heap.size (safe B S m true) ⟨λ_ _=>none,AH.emp,m.w⟩ l' b:=λ l b hb h l' => .inl ⟨gA h,hb⟩
 have hcell : ∀ (c:AV) (v:Value),CC B S m c v->GI c=true->Rd m.w (safe m.w.heap.size (safe B S m true) ⟨λ_ _=>none,AH.emp,m.w⟩) (UC c) v:=λ c v hc hd=>by
  cases hc with
  | rd hr=>exact hr.to1 hR hd
  | nil=>exact .jc false none 0
  | row=>simp [GI]at hd
  | ptr=>simp [GI]at hd
  | o7=>simp [GI]at hd
 have jz : ∀ (j:Nat) (c:AV) (v:Value),((n0.map ρ).map wc)[j]? = some c->(xs.toList.map a.eval)[j]? = some v->CA m.w.heap.size (safe B S m true) ⟨λ_ _=>none,AH.emp,m.w⟩ c v:=by
  intro j c v hc sf;rw[List.getElem?_map,List.getElem?_map]at hc;rw[List.getElem?_map]at sf;cases kf:xs.toList[j]? with
  | none=>simp [kf]at sf
  | some x =>
   cases np:n0[j]? with
   | none=>simp [np]at hc
   | some y =>
    simp [kf]at sf;simp [np]at hc;subst sf hc;have s8:=hx j x y kf np;have hd:dq (ρ y)=true:=List.all_eq_true.1 hq _ (List.mem_map_of_mem (zM np));generalize ρ y=cy at s8 hd ⊢;generalize a.eval x=vx at s8 ⊢;cases s8 with
    | any=>simp [dq,GI]at hd
    | g7=>simp [dq,GI]at hd
    | ca lq =>
     cases lq with
     | one Ec =>
      have nh:GI cy=true/\wc cy=UC cy:=by
       cases Ec with
       | rd hr=>cases hr<;>exact ⟨hd,rfl⟩
       | _=>exact ⟨hd,rfl⟩
      rw[nh.2];exact .one (.rd (hcell _ _ Ec nh.1))
     | agg cs vs m8 =>
      refine .agg (cs.map UC) vs ⟨by simpa using m8.1,λ k c' v' u5 nn => ?_⟩;rw[List.getElem?_map]at u5;cases oi:cs[k]? with
      | none=>simp [oi]at u5
      | some c0 =>
       simp [oi]at u5;subst u5;exact .rd (hcell c0 v' (m8.2 k c0 v' oi nn) (List.all_eq_true.1 hd _ (zM oi)))
     | fn=>simp [dq,GI]at hd
     | rj=>simp [dq,GI]at hd
 have fb:=hC.pure f _ r hr (safe B S m true) m.w (xs.toList.map a.eval) (by simp [hl]) jz;intro K Q hK;unfold Oper.wp;rw[ZL j8 (hC.tf f _ r hr _ _),ft];refine Calls.mono fb λ e w' ⟨u,iw,iu,s8,m8⟩ => ?_
 subst iw;obtain ⟨lu,fr⟩:=grow hm iu;refine hK u ⟨m.ν,m.own,w'⟩ rfl lu fr ?_;have iq : ∀ b,b<w'.heap.size->safe m.w.heap.size (safe B S m true) ⟨λ_ _=>none,AH.emp,w'⟩ false b->safe B S ⟨m.ν,m.own,w'⟩ true b:=λ b hb xo=>by
  rcases xo with ⟨h1,h2⟩|⟨h1,_⟩|⟨h1,_⟩
  ·exact fr.zu true b h2 h1
  ·refine .inr (.inl ⟨Nat.le_trans hm.size h1,λ s t jr hg => ?_⟩)
   obtain ⟨b',k6⟩:=Option.isSome_iff_exists.1 jr;obtain ⟨_,arr,e,hh⟩:=hm.ge ⟨b',k6⟩ hg;have:=(Array.getElem?_eq_some_iff.1 hh).1
   omega
  ·cases h1
 by_cases df:JS r
 ·rw[dO df]
  rcases bI s8 m8 with rl|⟨cs,vs,rfl,_⟩
  ·rcases rl with lv|⟨cs,vs,rfl,rfl,fj,hh⟩
   ·have e1:xv r=VX r/\UI r:=by cases lv<;>exact ⟨rfl,df⟩
    rw[show CB.valOf (.val (xv r)) m.own=xv r from rfl,e1.1];exact .ca (.one (.rd (lv.yf iq m8 e1.2)))
   ·unfold A4 at m8
    refine .ca (.agg (cs.map VX) vs ⟨by simpa using fj,λ k c' v' u5 nn => ?_⟩);rw[List.getElem?_map]at u5;cases oi:cs[k]? with
    | none=>simp [oi]at u5
    | some c0 =>
     simp [oi]at u5;subst u5;exact .rd ((hh k c0 v' oi nn).yf iq (OM m8 k c0 oi) (df c0 (zM oi)))
  ·exact df.elim
 ·rw[qB df]
  have hd:=Kn.resolve_left df;rcases bI s8 m8 with rl|⟨cs,vs,rfl,_⟩
  ·rcases rl with lv|⟨cs,vs,rfl,rfl,fj,hh⟩
   ·have e1:OS r=HC r:=by cases lv<;>rfl
    rw[show CB.valOf (.val (OS r)) m.own=OS r from rfl,e1];exact .ca (.one (.rd (lv.yg iq m8)))
   ·unfold A4 at m8
    rw[show CB.valOf (.val (OS (.agg cs))) m.own = .agg (K6 cs) from rfl,dN];refine .ca (.agg (cs.map HC) vs ⟨by simpa using fj,λ k c' v' u5 nn => ?_⟩);rw[List.getElem?_map]at u5;cases oi:cs[k]? with
    | none=>simp [oi]at u5
    | some c0 =>
     simp [oi]at u5;subst u5;exact .rd ((hh k c0 v' oi nn).yg iq (OM m8 k c0 oi))
  ·exact hd.elim
end
end Go.c5
