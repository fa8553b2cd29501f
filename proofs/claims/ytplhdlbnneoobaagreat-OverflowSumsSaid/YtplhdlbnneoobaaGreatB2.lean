/-
  The operations that make and read memory.
-/
import Derived.Test.YtplhdlbnneoobaaGreatB1
import Derived.Laws.Slices
set_option linter.unusedSimpArgs false
set_option linter.unusedVariables false
set_option linter.unnecessarySimpa false
namespace Go.c4
open Go.RowKit
section
variable {B:Nat} {S:Nat->Prop} {w0:World} {m:M}
variable {P:Program} {num:Nat->Nat} {o:Oper} {a:Act} {ρ:AM->AV}
theorem QO {cs:List AV} {vs:List Value} (h:CL B S m cs vs) {j:Nat} {c:AV} (hj:cs[j]? = some c) : ∃ u,vs[j]? = some u/\CC B S m c u:=by
 have l6:j<cs.length:=(zS hj).1;have pc:j<vs.length:=by rw[<-h.1];exact l6
 exact ⟨vs[j],zE pc,h.2 j c _ hj (zE pc)⟩
theorem Qm {s:Nat} {b:DJ} {w':World} {g:Nat}:CV B S ⟨g9 m s (some g),m.own.put s ((m.own s).new b),w'⟩ (.ptr s (m.own.g7 s) 0 0) (.pointer (some ⟨g,0,none⟩)):=by
 refine .ca (.one (.ptr s (m.own.g7 s) 0 0 ⟨g,0,none⟩ ?_ λ b' k6=>⟨g,?_,by simp⟩))
 ·show _<AH.g7 _ s
  rw[JL];simp
 ·simp [g9]
theorem gI (hm:BI B S w0 m) (s:Nat) (cs:List AV) (vs:Array Value) (e:TypeId) (hc:CL B S m cs vs.toList) (h:(execOp a.eval o).run P m.w = .ok (.value (.pointer (some ⟨m.w.heap.size,0,none⟩))) (m.w.alloc (.cells vs e))) :
  CF B S w0 P o a m (.new s ⟨cs.length,[cs]⟩ (λ t => .ptr s t 0 0)):=by
 intro K Q hK;obtain ⟨h1,h2⟩:=R2 hm s ⟨cs.length,[cs]⟩ vs e (by simp) (λ i bm hi j c hj=>by
  cases i with
  | zero =>
   obtain rfl:cs=bm:=by simpa using hi
   obtain ⟨u,hu,q9⟩:=QO hc hj;exact ⟨u,by simpa using hu,q9⟩
  | succ i=>simp at hi)
 exact IZ h (hK _ ⟨g9 m s (some m.w.heap.size),m.own.put s ((m.own s).new ⟨cs.length,[cs]⟩),m.w.alloc (.cells vs e)⟩ rfl h1 h2 Qm)
theorem wG (hm:BI B S w0 m) (hs:CD B S m ρ a.eval) {s:Nat} {x':AM} (h:A2 P num o.op (.box s x')=true) {cs:List AV} (hc:cellsOf (ρ x')=some cs) :
  CF B S w0 P o a m (.new s ⟨cs.length,[cs]⟩ (λ t => .ptr s t 0 0)):=by
 obtain ⟨t,x,j8,h1⟩:=Og h;exact gI hm s cs (a.eval x).cells t (U4 (hs x x' h1) hc) (by simp [execOp,j8,Instr.box,newVar,newRow])
theorem wA (hm:BI B S w0 m) {s:Nat} {z:List AV} (h:A2 P num o.op (.alloc s z)=true):CF B S w0 P o a m (.new s ⟨z.length,[z]⟩ (λ t => .ptr s t 0 0)):=by
 obtain ⟨t,j8,h1⟩:=Nz h;obtain ⟨i,v,hi,hz,he⟩:=cJ h1;exact gI hm s z v.cells t (QV he) (by simp [execOp,j8,Instr.alloc,zeroValue,typeInfo,hi,hz,newVar,newRow])
theorem Y8 (off:Nat) : ∀ (vs:List Value) (k:Nat) (cells:Array Value),off+k+vs.length<=cells.size ->
  ((vs.zipIdx k).foldl (λ cs (x:Value × Nat)=>cs.setIfInBounds (off+x.2) x.1) cells).toList=cells.toList.take (off+k)++vs++cells.toList.drop (off+k+vs.length)
 | [],k,cells,_=>by simp
 | v::r,k,cells,h=>by
  simp only[List.length_cons]at h;rw[List.zipIdx_cons,List.foldl_cons,Y8 off r (k+1) _ (by simp;omega)];simp only[Array.toList_setIfInBounds,List.length_cons];apply List.ext_getElem?;intro q;have e1:(cells.toList.set (off+k) v).drop (off+(k+1)+r.length)=cells.toList.drop (off+k+(r.length+1)):=by
   rw[show off+(k+1)+r.length=off+k+(r.length+1) by omega];exact List.drop_set_of_lt (by omega)
  have e2:(cells.toList.set (off+k) v).take (off+(k+1))=cells.toList.take (off+k)++[v]:=by
   rw[show off+(k+1)=off+k+1 by omega,List.take_succ_eq_append_getElem (by simp;omega)];simp [List.take_set_of_le]
  rw[e1,e2];simp
theorem YZ (place:Nat->Option (Nat × Nat)) (hs:CD B S m ρ a.eval) : ∀ (ps:List (Nat × Operand)) (bl:List (Nat × Nat × AM)) (cs bm:List AV) (vs:Array Value),P0 place ps bl=true->CL B S m cs vs.toList ->
  fill cs (bl.map λ p=>(p.1,p.2.1,ρ p.2.2))=some bm -> ∃ w7,Instr.fill place vs (ps.map λ p=>(p.1,a.eval p.2))=some w7/\CL B S m bm w7.toList
 | [],[],cs,bm,vs,_,hc,hf=>by
  simp [fill]at hf;subst hf;exact ⟨vs,rfl,hc⟩
 | (i,x)::r,(off,n,y)::l,cs,bm,vs,hp,hc,hf=>by
  simp only[P0,Bool.and_eq_true,beq_iff_eq]at hp;obtain ⟨⟨Fa,xm⟩,Vy⟩:=hp;simp only[List.map_cons,fill]at hf;cases hcell:cellsOf (ρ y) with
  | none=>simp [hcell]at hf
  | some us =>
   simp only[hcell]at hf;split at hf
   ·rename_i hn
    obtain ⟨Vq,Es⟩:=hn;have y9:=U4 (hs x y xm) hcell;have o9:(a.eval x).cells.size=n:=by rw[<-Vq,y9.1];simp
    have vk:off+(a.eval x).cells.size<=vs.size:=by rw[o9];have:=hc.1;simp at this;omega
    have ou:=Y8 off (a.eval x).cells.toList 0 vs (by simpa using vk);have da:Instr.fill place vs (((i,x)::r).map λ p=>(p.1,a.eval p.2))=Instr.fill place ((a.eval x).cells.zipIdx.foldl (λ cs (c,j)=>cs.setIfInBounds (off+j) c) vs) (r.map λ p=>(p.1,a.eval p.2)):=by
     simp only[List.map_cons,Instr.fill,Fa];rw[if_neg (by simp;omega)]
    rw[da];refine YZ place hs r l (splice cs off us) bm _ Vy ?_ hf;have hz:((a.eval x).cells.zipIdx.foldl (λ cs (c,j)=>cs.setIfInBounds (off+j) c) vs).toList=vs.toList.take off++(a.eval x).cells.toList++vs.toList.drop (off+(a.eval x).cells.toList.length):=by
     rw[<-Array.foldl_toList];simpa using ou
    rw[hz];unfold splice;refine ⟨?_,λ j c v hj hv => ?_⟩
    ·have:=hc.1;have:=y9.1;simp at *;omega
    ·have ft:=hc.1
     have ff:=y9.1;simp only[Array.length_toList]at ft ff;rw[List.getElem?_append]at hj hv;simp only[List.length_append,List.length_take,Array.length_toList]at hj hv;rw[List.getElem?_append]at hj hv;simp only[List.length_take,Array.length_toList]at hj hv;have eh:min off cs.length=off:=by omega
     have dp:min off vs.size=off:=by omega
     rw[eh]at hj;rw[dp]at hv;rw[<-ff]at hv;split at hj
     ·rename_i h1
      rw[if_pos h1]at hv;split at hj
      ·rename_i h2
       rw[if_pos h2]at hv;rw[List.getElem?_take]at hj hv;rw[if_pos h2]at hj hv;exact hc.2 j c v hj hv
      ·rename_i h2
       rw[if_neg h2]at hv;exact y9.2 _ c v hj hv
     ·rename_i h1
      rw[if_neg h1]at hv;rw[List.getElem?_drop]at hj hv;exact hc.2 _ c v hj hv
   ·cases hf
 | [],_::_,_,_,_,hp,_,_=>by simp [P0]at hp
 | _::_,[],_,_,_,hp,_,_=>by simp [P0]at hp
theorem wI (hm:BI B S w0 m) (hs:CD B S m ρ a.eval) {z:List AV} {bl:List (Nat × Nat × AM)} (h:A2 P num o.op (.build z bl)=true) {cs:List AV} (hf:fill z (bl.map λ p=>(p.1,p.2.1,ρ p.2.2))=some cs) :
  CF B S w0 P o a m (.val (.agg cs)):=by
 obtain ⟨t,ps,j8,h1,h2⟩:=Oi h;obtain ⟨i,v,hi,hz,he⟩:=cJ h1;have key : ∃ w7,P.built t (ps.map λ p=>(p.1,a.eval p.2)).toList=some w7/\CL B S m cs w7.toList:=by
  unfold XN at h2;unfold Program.built;split at h2
  ·rename_i fs hu
   split at h2
   ·rename_i places hp
    obtain ⟨w7,h3,h4⟩:=YZ _ hs ps.toList bl z cs v.cells h2 (QV he) hf;refine ⟨w7,?_,h4⟩;simp only[hi,hu,hz,hp,Array.toList_map];exact h3
   ·cases h2
  ·rename_i n e hu
   split at h2
   ·rename_i ie Ek
    obtain ⟨w7,h3,h4⟩:=YZ _ hs ps.toList bl z cs v.cells h2 (QV he) hf;refine ⟨w7,?_,h4⟩;simp only[hi,hu,hz,Ek,Array.toList_map];exact h3
   ·cases h2
  ·cases h2
 obtain ⟨w7,h3,h4⟩:=key;refine DS hm (u := .agg w7) ?_ (.ca (by simpa using CA.agg cs w7.toList h4));simp only[execOp,j8,Sem.run_bind];rw[run_build m.w t _ w7 h3];rfl
theorem jQ (size:Nat) (hs:CD B S m ρ a.eval) : ∀ (ps:List (Nat × Operand)) (bl:List AM) (k:Nat) (es:List (List AV)) (vs:Array Value),PM k ps bl=true->bl.mapM (λ x=>cellsOf (ρ x))=some es->(∀ e∈es,e.length=size)->vs.size=(k+bl.length)*size ->
  ∃ w7,Instr.fill (λ i=>some (i*size,size)) vs (ps.map λ p=>(p.1,a.eval p.2))=some w7/\w7.size=vs.size/\(∀ q,q<k*size->w7[q]? = vs[q]?) /\ ∀ i cs,es[i]? = some cs -> ∀ j c,cs[j]? = some c -> ∃ u,w7[(k+i)*size+j]? = some u/\CC B S m c u
 | [],[],k,es,vs,_,eg,_,_=>by
  simp at eg;subst eg;exact ⟨vs,rfl,rfl,λ_ _=>rfl,λ i cs hi=>by simp at hi⟩
 | (i,x)::r,y::l,k,es,vs,he,eg,hz,hv=>by
  simp only[PM,Bool.and_eq_true,beq_iff_eq]at he;obtain ⟨⟨rfl,h1⟩,h2⟩:=he;simp only[List.mapM_cons,Option.bind_eq_bind,Option.pure_def]at eg;cases hcell:cellsOf (ρ y) with
  | none=>simp [hcell]at eg
  | some us =>
   cases aw:l.mapM (λ x=>cellsOf (ρ x)) with
   | none=>simp [hcell,aw]at eg
   | some es' =>
    simp [hcell,aw]at eg;subst eg;have y9:=U4 (hs x y h1) hcell;have Ir:us.length=size:=hz us (by simp);have o9:(a.eval x).cells.size=size:=by rw[<-Ir,y9.1];simp
    simp only[List.length_cons]at hv;have hle:i*size+size<=vs.size:=by rw[hv,show i+(l.length+1)=i+1+l.length by omega,Nat.add_mul,Nat.add_mul];omega
    have ou:=Y8 (i*size) (a.eval x).cells.toList 0 vs (by simp [o9];omega);generalize Ay:(a.eval x).cells.zipIdx.foldl (λ cs (c,j)=>cs.setIfInBounds (i*size+j) c) vs=yd;have fk:yd.toList=vs.toList.take (i*size)++(a.eval x).cells.toList++vs.toList.drop (i*size+size):=by
     rw[<-Ay,<-Array.foldl_toList];simpa [o9] using ou
    have Ch:yd.size=vs.size:=by
     have:=congrArg List.length fk
     simp [o9]at this;omega
    obtain ⟨w7,h3,h4,h5,h6⟩:=jQ size hs r l (i+1) es' yd h2 aw (λ e he=>hz e (by simp [he])) (by rw[Ch,hv];congr 1;omega);refine ⟨w7,?_,h4.trans Ch,λ q hq => ?_,λ i' cs m4 j c hj => ?_⟩
    ·simp only[List.map_cons,Instr.fill]
     rw[if_neg (by simp [o9];omega),Ay];exact h3
    ·rw[h5 q (by rw[Nat.add_mul];omega)]
     have:yd.toList[q]? = vs.toList[q]? := by
      rw[fk,List.append_assoc,List.getElem?_append_left (by simp;omega),List.getElem?_take,if_pos hq]
     simpa using this
    ·cases i' with
     | zero =>
      obtain rfl:us=cs:=by simpa using m4
      obtain ⟨u,hu,q9⟩:=QO y9 hj;have bp:j<size:=by rw[<-Ir];exact (zS hj).1
      refine ⟨u,?_,q9⟩;rw[Nat.add_zero,h5 _ (by rw[Nat.add_mul];omega)];have:yd.toList[i*size+j]? = some u:=by
       rw[fk,List.append_assoc,List.getElem?_append_right (by simp;omega)];simp only[List.length_take,Array.length_toList,show min (i*size) vs.size=i*size by omega,show i*size+j-i*size=j by omega];rw[List.getElem?_append_left (by simp [o9];omega)];exact hu
      simpa using this
     | succ i' =>
      obtain ⟨u,hu,q9⟩:=h6 i' cs (by simpa using m4) j c hj;exact ⟨u,by rw[show i+(i'+1)=i+1+i' by omega];exact hu,q9⟩
 | [],_::_,_,_,_,he,_,_,_=>by simp [PM]at he
 | _::_,[],_,_,_,he,_,_,_=>by simp [PM]at he
theorem VV {s z n cap:Nat} {es:List (List AV)} {w':World} {g:Nat} {arr:Array Value} {e:TypeId} (hz:0<z) (hn:n<=cap) (hg:w'.heap[g]? = some (.cells arr e (0,0))) (hc:cap*z<=arr.size) :
  CV B S ⟨g9 m s (some g),m.own.put s ((m.own s).new ⟨z,es⟩),w'⟩ (.row s (m.own.g7 s) z 0 n) (.slice (some ⟨g,0,none⟩) n cap):=by
 refine .ca (.one (.row s (m.own.g7 s) z 0 n _ cap ?_ hz hn (λ_=>rfl) λ b' k6=>⟨?_,.inr ⟨g,arr,e,?_,by simp,hg,by simpa using hc⟩⟩))
 ·show _<AH.g7 _ s
  rw[JL];simp
 ·change AH.get _ s _=some b' at k6
  rw[FL,if_pos ⟨rfl,rfl⟩]at k6;obtain rfl:(⟨z,es⟩:DJ)=b':=by simpa using k6
  rfl
 ·simp [g9]
theorem gL (hm:BI B S w0 m) (s z n cap:Nat) (es:List (List AV)) (vs:Array Value) (e:TypeId) (ay:0<z) (hn:n<=cap) (o9:cap*z<=vs.size) (hz : ∀ x∈es,x.length=z)
  (hc : ∀ i cs,es[i]? = some cs -> ∀ j c,cs[j]? = some c -> ∃ u,vs[i*z+j]? = some u/\CC B S m c u)
  (h:(execOp a.eval o).run P m.w = .ok (.value (.slice (some ⟨m.w.heap.size,0,none⟩) n cap)) (m.w.alloc (.cells vs e))) :
  CF B S w0 P o a m (.new s ⟨z,es⟩ (λ t => .row s t z 0 n)):=by
 intro K Q hK;obtain ⟨h1,h2⟩:=R2 hm s ⟨z,es⟩ vs e hz hc;exact IZ h (hK _ ⟨g9 m s (some m.w.heap.size),m.own.put s ((m.own s).new ⟨z,es⟩),m.w.alloc (.cells vs e)⟩ rfl h1 h2 (VV ay hn (heap_alloc_new _ _) o9))
theorem wH (hm:BI B S w0 m) (hs:CD B S m ρ a.eval) {s a6:Nat} {bl:List AM} (h:A2 P num o.op (.c9 s a6 bl)=true) {es:List (List AV)} (eg:bl.mapM (λ x=>cellsOf (ρ x))=some es) (hz : ∀ e∈es,e.length=a6) :
  CF B S w0 P o a m (.new s ⟨a6,es⟩ (λ t => .row s t a6 0 es.length)):=by
 obtain ⟨t,n,ps,e,i,j8,hu,hi,o9,h0,hn,Fp,w6,hzero⟩:=Oh h;have hlen:es.length=n:=by
  rw[hn];clear h w6 hzero hn;induction bl generalizing es with
  | nil=>simp at eg;subst eg;rfl
  | cons y l ih =>
   simp only[List.mapM_cons,Option.bind_eq_bind,Option.pure_def]at eg;cases hcell:cellsOf (ρ y) with
   | none=>simp [hcell]at eg
   | some us =>
    cases aw:l.mapM (λ x=>cellsOf (ρ x)) with
    | none=>simp [hcell,aw]at eg
    | some es' =>
     simp [hcell,aw]at eg;subst eg;simp [ih aw (λ e he=>hz e (by simp [he]))]
 obtain ⟨zc,lz⟩ : ∃ zc:Array Value,(n*a6=0/\zc = #[])\/(¬ n*a6=0 /\ ∃ z,i.zero=some z/\zc=z.cells):=by
  by_cases k8:n*a6=0
  ·exact ⟨#[],.inl ⟨k8,rfl⟩⟩
  ·rcases hzero with qy|⟨z,fk,lv⟩
   ·simp [qy]at k8
   ·exact ⟨z.cells,.inr ⟨k8,z,fk,rfl⟩⟩
 have Bd:((Array.range (n*a6)).map (zc[· % zc.size]!)).size=n*a6:=by simp
 obtain ⟨w7,h3,h4,_,h6⟩:=jQ a6 hs ps.toList bl 0 es _ w6 eg hz (by rw[Bd,hn];simp);have m6:(execOp a.eval o).run P m.w = .ok (.value (.slice (some ⟨m.w.heap.size,0,none⟩) n n)) (m.w.alloc (.cells w7 e)):=by
  simp only[execOp,j8,Instr.buildSlice,Sem.run_bind,run_underlying hu,Result.andThen_ok,sizeOf,typeInfo,run_program,hi,Sem.run_pure,o9];simp only[show ¬ (n*a6>2^24) from by omega,if_false,Sem.run_bind,Sem.run_pure,Result.andThen_ok];rcases lz with ⟨qy,rfl⟩|⟨qy,z,fk,rfl⟩
  ·simp only[qy,if_true,Sem.run_bind,Sem.run_pure,Result.andThen_ok,Array.toList_map]
   rw[qy]at h3;rw[h3];rfl
  ·simp only[qy,if_false,Sem.run_bind,Sem.run_pure,Result.andThen_ok,Array.toList_map,zeroValue,typeInfo,run_program,hi,fk]
   rw[h3];rfl
 rw[hlen];exact gL hm s a6 n n es w7 e (Nat.pos_of_ne_zero h0) (Nat.le_refl _) (by rw[h4,Bd];exact Nat.le_refl _) hz (λ i cs m4 j c hj=>by simpa using h6 i cs m4 j c hj) m6
end
end Go.c4
namespace Go.c4
open Go.RowKit
section
variable {B:Nat} {S:Nat->Prop} {w0:World} {m:M}
variable {P:Program} {num:Nat->Nat} {o:Oper} {a:Act} {ρ:AM->AV}
theorem U3 {x:AV} {v:Value} (h:CV B S m x v) (h1:x ≠ .any) (h2 : ∀ cs,x ≠ .agg cs) (h3 : ∀ cs,x ≠ .j5 cs) (h4 : ∀ p f g cs,x ≠ .fn p f g cs:=by intros;simp):CC B S m x v:=by
 cases h with
 | any=>exact absurd rfl h1
 | j5 as=>exact absurd rfl (h3 as)
 | ca h=>cases h with
  | one h=>exact h
  | agg cs=>exact absurd rfl (h2 cs)
  | fn p f g cs=>exact absurd rfl (h4 p f g cs)
theorem QP {s t i j:Nat} {v:Value} (h:CV B S m (.ptr s t i j) v) : ∃ ad,v = .pointer (some ad)/\t<m.own.g7 s /\ ∀ b,m.own.get s t=some b -> ∃ g,m.ν s t=some g/\ad=⟨g,i*b.a6+j,none⟩:=by
 cases U3 h (by simp) (by simp) (by simp) with
 | rd h=>cases h
 | ptr s t i j ad ht h'=>exact ⟨ad,rfl,ht,h'⟩
theorem XV {cs:List AV} {v:Value} (h:CV B S m (.o8 cs) v) : ∃ (b o:Nat) (u:Nat->Value) (l:Bool),v = .pointer (some ⟨b,o,none⟩)/\(cs≠[]->safe B S m l b)/\(∀ j c,cs[j]? = some c->m.w.cell? ⟨b,o+j,none⟩=some (u j))/\(∀ j c,cs[j]? = some c->Rd m.w (safe B S m) c (u j)):=by
 cases U3 h (by simp) (by simp) (by simp) with
 | rd h=>cases h
 | o8 _ b o u l h1 h2 h3=>exact ⟨b,o,u,l,rfl,h1,h2,h3⟩
theorem PI {s t z off len:Nat} {v:Value} (h:CV B S m (.row s t z off len) v) : ∃ (ad:Option Addr) (cap:Nat),v = .slice ad len cap/\t<m.own.g7 s/\0<z/\len<=cap/\(0<len->ad.isSome=true) /\
  ∀ b,m.own.get s t=some b->b.a6=z/\((len=0/\cap=0) \/ ∃ g arr e,m.ν s t=some g/\ad=some ⟨g,off*z,none⟩/\m.w.heap[g]? = some (.cells arr e (0,0))/\(off+cap)*z<=arr.size):=by
 cases U3 h (by simp) (by simp) (by simp) with
 | rd h=>cases h
 | row s t z off len ad cap ht ay de ha h'=>exact ⟨ad,cap,rfl,ht,ay,de,ha,h'⟩
theorem U5 {l:Bool} {es:List (List AV)} {v:Value} (h:CV B S m (.sl l es) v):Rd m.w (safe B S m) (.sl l es) v:=by
 cases U3 h (by simp) (by simp) (by simp) with
 | rd h=>exact h
theorem xK (hm:BI B S w0 m) (hs:CD B S m ρ a.eval) {x':AM} (h:A2 P num o.op (.nm x')=true) {s t i j:Nat} (hx:ρ x' = .ptr s t i j):CF B S w0 P o a m (.val (.ptr s t i j)):=by
 obtain ⟨x,j8,h1⟩:=Mt h;have hc:=hx ▸ hs x x' h1;obtain ⟨ad,hv,_,_⟩:=QP hc;refine DS hm (u := .pointer (some ad)) ?_ (hv ▸ hc);simp [execOp,j8,hv]
theorem wU (hm:BI B S w0 m) (hs:CD B S m ρ a.eval) {x':AM} {off:Nat} (h:A2 P num o.op (.a5 x' off)=true) {s t i j:Nat} (hx:ρ x' = .ptr s t i j):CF B S w0 P o a m (.val (.ptr s t i (j+off))):=by
 obtain ⟨ty,x,f,fs,fd,inf,j8,h1,hu,hf,ho,hi,o9⟩:=kP h;obtain ⟨ad,hv,ht,hb⟩:=QP (hx ▸ hs x x' h1);refine DS hm (u := .pointer (some (ad.add off))) ?_ (.ca (.one (.ptr s t i (j+off) _ ht λ b k6 => ?_)))
 ·simp [execOp,j8,hv,Instr.fieldAt,run_underlying hu,hf,Instr.sureAddr,fieldPlace,sizeOf,typeInfo,hi,o9,ho]
 ·obtain ⟨g,hg,rfl⟩:=hb b k6
  exact ⟨g,hg,by rw[GO];simp;omega⟩
theorem wT (hm:BI B S w0 m) (hs:CD B S m ρ a.eval) {x':AM} {off:Nat} (h:A2 P num o.op (.a5 x' off)=true) {cs:List AV} (hx:ρ x' = .o8 cs):CF B S w0 P o a m (.val (.o8 (cs.drop off))):=by
 obtain ⟨ty,x,f,fs,fd,inf,j8,h1,hu,hf,ho,hi,o9⟩:=kP h;obtain ⟨b,ob,u,l,hv,hR,hc,hr⟩:=XV (hx ▸ hs x x' h1);refine DS hm (u := .pointer (some ⟨b,ob+off,none⟩)) ?_ (.ca (.one (.o8 _ b (ob+off) (λ j=>u (off+j)) l (λ k8=>hR (λ e=>k8 (by simp [e]))) (λ j c hj => ?_) (λ j c hj => ?_))))
 ·simp [execOp,j8,hv,Instr.fieldAt,run_underlying hu,hf,Instr.sureAddr,fieldPlace,sizeOf,typeInfo,hi,o9,ho,GO]
 ·rw[List.getElem?_drop]at hj
  rw[Nat.add_assoc];exact hc _ c hj
 ·rw[List.getElem?_drop]at hj
  exact hr _ c hj
theorem S7 {agg:Bool} {cs:List AV} {v:AV} (h:H6 agg cs=some v) {vs:List Value} (hc:CL B S m cs vs):CV B S m v (if agg then .agg vs.toArray else vs.getD 0 undef)/\(agg=false->vs.length=1):=by
 unfold H6 at h;cases agg with
 | true =>
  obtain rfl:AV.agg cs=v:=by simpa using h
  exact ⟨.ca (.agg cs vs hc),by simp⟩
 | false =>
  simp only[Bool.false_eq_true,if_false]at h;split at h
  ·rename_i c
   obtain rfl:c=v:=by simpa using h
   obtain ⟨u,hu,q9⟩:=QO hc (j:=0) (c:=c) rfl;refine ⟨?_,λ_=>by rw[<-hc.1];rfl⟩;simp only[Bool.false_eq_true,if_false,List.getD,hu,Option.getD_some];exact .ca (.one q9)
  ·cases h
theorem nL (t:TypeId) (agg:Bool) (inf:TypeInfo) (ch : ∀ w,(isAgg t).run P w = .ok agg w) (hi:P.info? t=some inf) (vs:List Value) (off n:Nat) (hn:inf.size=n) (hle:off+n<=vs.length) (h1:agg=false->n=1) (w:World) :
  (Go.part t vs.toArray off).run P w = .ok (if agg then .agg ((vs.drop off).take n).toArray else ((vs.drop off).take n).getD 0 undef) w:=by
 unfold Go.part;rw[Sem.run_bind,ch w];cases agg with
 | true=>simp [sizeOf,typeInfo,hi,hn,List.extract_eq_take_drop]
 | false =>
  have l6:off<vs.length:=by have:=h1 rfl;omega
  simp [l6,h1 rfl]
theorem wV (hm:BI B S w0 m) (hs:CD B S m ρ a.eval) {x':AM} {off n:Nat} {agg:Bool} (h:A2 P num o.op (.ja x' off n agg)=true) {cs ds:List AV} {v:AV} (hx:ρ x' = .agg cs) (hp:part cs off n=some ds) (hv:H6 agg ds=some v) :
  CF B S w0 P o a m (.val v):=by
 obtain ⟨ty,x,f,fs,fd,inf,j8,h1,hu,hf,ho,hi,o9,ch,h0⟩:=Ov h;obtain ⟨vs,u6,n6⟩:=U2 (hx ▸ hs x x' h1);unfold c4.part at hp;split at hp
 ·rename_i hle
  obtain rfl:(cs.drop off).take n=ds:=by simpa using hp
  obtain ⟨q6,cp⟩:=S7 hv (eK n6 off n);have hl:=n6.1;have qz:agg=false->n=1:=λ e=>by have:=cp e;simp at this;omega
  refine DS hm ?_ q6;simp only[execOp,j8,Sem.run_bind,Instr.field,run_underlying hu,Result.andThen_ok,hf,u6,asAgg,Sem.run_pure,ho];rw[nL fd.type agg inf ch hi vs off n o9 (by omega) qz];rfl
 ·cases hp
theorem xA (hm:BI B S w0 m) (hs:CD B S m ρ a.eval) {len a6:Nat} {agg:Bool} {x' i':AM} (h:A2 P num o.op (.idx len a6 agg x' i')=true) {k:IntKind} {n:Int} {cs ds:List AV} {v:AV} (m4:ρ i' = .int k n) (hx:ρ x' = .agg cs) (h0:0<=n) (hn:n<len)
  (hp:part cs (n.toNat*a6) a6=some ds) (hv:H6 agg ds=some v):CF B S w0 P o a m (.val v):=by
 obtain ⟨ty,x,i,e,inf,j8,h1,h2,hu,hi,o9,ch⟩:=Ow h;obtain ⟨vs,u6,n6⟩:=U2 (hx ▸ hs x x' h1);have nb:=GC (m4 ▸ hs i i' h2);unfold c4.part at hp;split at hp
 ·rename_i hle
  obtain rfl:(cs.drop (n.toNat*a6)).take a6=ds:=by simpa using hp
  obtain ⟨q6,cp⟩:=S7 hv (eK n6 (n.toNat*a6) a6);have hl:=n6.1;have qz:agg=false->a6=1:=λ e=>by have:=cp e;simp at this;omega
  refine DS hm ?_ q6;simp only[execOp,j8,Sem.run_bind,Instr.index,nb,asIntOf,Sem.run_pure,run_underlying hu,Result.andThen_ok,u6];rw[if_pos ⟨h0,hn⟩];simp only[Sem.run_bind,sizeOf,typeInfo,run_program,hi,Sem.run_pure,Result.andThen_ok,o9];rw[nL e agg inf ch hi vs (n.toNat*a6) a6 o9 (by omega) qz];rfl
 ·cases hp
theorem wW (hm:BI B S w0 m) (hs:CD B S m ρ a.eval) {len a6:Nat} {x' i':AM} (h:A2 P num o.op (.a9 (some len) a6 x' i')=true) {k:IntKind} {n:Int} {s t i0 j:Nat} (m4:ρ i' = .int k n) (hx:ρ x' = .ptr s t i0 j) (h0:0<=n) (hn:n<len) :
  CF B S w0 P o a m (.val (.ptr s t i0 (j+n.toNat*a6))):=by
 obtain ⟨ty,x,i,e,inf,j8,h1,h2,hi,o9,au⟩:=VO h;rcases au with ⟨gf,hl,hu,l6⟩|⟨hl,_⟩
 ·obtain rfl:len=gf:=by simpa using hl
  obtain ⟨ad,hv,ht,hb⟩:=QP (hx ▸ hs x x' h1);have nb:=GC (m4 ▸ hs i i' h2);refine DS hm (u := .pointer (some (ad.add (n.toNat*a6)))) ?_ (.ca (.one (.ptr s t i0 (j+n.toNat*a6) _ ht λ b k6 => ?_)))
  ·simp [execOp,j8,hv,nb,Instr.indexAt,asIntOf,run_underlying hu,Instr.sureAddr,sizeOf,typeInfo,hi,o9,h0,hn]
  ·obtain ⟨g,hg,rfl⟩:=hb b k6
   exact ⟨g,hg,by rw[GO];simp;omega⟩
 ·cases hl
theorem wX (hm:BI B S w0 m) (hs:CD B S m ρ a.eval) {len a6:Nat} {x' i':AM} (h:A2 P num o.op (.a9 (some len) a6 x' i')=true) {k:IntKind} {n:Int} {cs:List AV} (m4:ρ i' = .int k n) (hx:ρ x' = .o8 cs) (h0:0<=n) (hn:n<len) :
  CF B S w0 P o a m (.val (.o8 (cs.drop (n.toNat*a6)))):=by
 obtain ⟨ty,x,i,e,inf,j8,h1,h2,hi,o9,au⟩:=VO h;rcases au with ⟨gf,hl,hu,l6⟩|⟨hl,_⟩
 ·obtain rfl:len=gf:=by simpa using hl
  obtain ⟨b,ob,u,l,hv,hR,hc,hr⟩:=XV (hx ▸ hs x x' h1);have nb:=GC (m4 ▸ hs i i' h2);refine DS hm (u := .pointer (some ⟨b,ob+n.toNat*a6,none⟩)) ?_ (.ca (.one (.o8 _ b (ob+n.toNat*a6) (λ j=>u (n.toNat*a6+j)) l (λ k8=>hR (λ e=>k8 (by simp [e]))) (λ j c hj => ?_) (λ j c hj => ?_))))
  ·simp [execOp,j8,hv,nb,Instr.indexAt,asIntOf,run_underlying hu,Instr.sureAddr,sizeOf,typeInfo,hi,o9,h0,hn,GO]
  ·rw[List.getElem?_drop]at hj
   rw[Nat.add_assoc];exact hc _ c hj
  ·rw[List.getElem?_drop]at hj
   exact hr _ c hj
 ·cases hl
theorem nJ (ty e:TypeId) (inf:TypeInfo) (hu:P.underlying ty=some (.slice e)) (hi:P.info? e=some inf) (ad:Addr) (len cap:Nat) (k:IntKind) (n:Int) (h0:0<=n) (hn:n<len) (w:World) :
  (Instr.indexAt ty (.slice (some ad) len cap) (.int k n)).run P w = .ok (.pointer (some (ad.add (n.toNat*inf.size)))) w:=by
 simp [Instr.indexAt,asIntOf,run_underlying hu,sizeOf,typeInfo,hi,h0,hn]
theorem wY (hm:BI B S w0 m) (hs:CD B S m ρ a.eval) {a6:Nat} {x' i':AM} (h:A2 P num o.op (.a9 none a6 x' i')=true) {k:IntKind} {n:Int} {s t z off len:Nat} (m4:ρ i' = .int k n) (hx:ρ x' = .row s t z off len) (h0:0<=n) (hn:n<len) (hz:z=a6) :
  CF B S w0 P o a m (.val (.ptr s t (off+n.toNat) 0)):=by
 obtain ⟨ty,x,i,e,inf,j8,h1,h2,hi,o9,au⟩:=VO h;rcases au with ⟨_,hl,_⟩|⟨_,hu,_⟩
 ·cases hl
 ·obtain ⟨ad,cap,hv,ht,ay,de,ha,hb⟩:=PI (hx ▸ hs x x' h1)
  have nb:=GC (m4 ▸ hs i i' h2);obtain ⟨wc,rfl⟩:=Option.isSome_iff_exists.1 (ha (by omega));refine DS hm (u := .pointer (some (wc.add (n.toNat*a6)))) ?_ (.ca (.one (.ptr s t (off+n.toNat) 0 _ ht λ b k6 => ?_)))
  ·simp only[execOp,j8,hv,nb,Sem.run_bind]
   rw[nJ ty e inf hu hi wc len cap k n h0 hn,o9];rfl
  ·obtain ⟨eb,au⟩:=hb b k6
   rcases au with ⟨nc,_⟩|⟨g,arr,e',hg,fc,_,_⟩
   ·omega
   ·obtain rfl:wc=⟨g,off*z,none⟩:=by simpa using fc
    exact ⟨g,hg,by rw[GO,eb,<-hz,Nat.add_mul];rfl⟩
theorem wZ (hm:BI B S w0 m) (hs:CD B S m ρ a.eval) {a6:Nat} {x' i':AM} (h:A2 P num o.op (.a9 none a6 x' i')=true) {k:IntKind} {n:Int} {l:Bool} {es:List (List AV)} {cs:List AV} (m4:ρ i' = .int k n) (hx:ρ x' = .sl l es) (h0:0<=n) (hn:es[n.toNat]? = some cs) (hz:cs.length=a6) :
  CF B S w0 P o a m (.val (.o8 cs)):=by
 obtain ⟨ty,x,i,e,inf,j8,h1,h2,hi,o9,au⟩:=VO h;rcases au with ⟨_,hl,_⟩|⟨_,hu,_⟩
 ·cases hl
 ·have gq:=U5 (hx ▸ hs x x' h1)
  have nb:=GC (m4 ▸ hs i i' h2);have l6:n.toNat<es.length:=(zS hn).1;generalize u6:a.eval x=v at gq;cases gq with
  | ew=>simp at l6
  | sl _ _ b ob q5 cap u k8 hp hR s9 bk hc hr =>
   have Bc:q5=a6:=by
    rw[<-hz];exact (bk cs (zM hn)).symm
   subst Bc;refine DS hm (u := .pointer (some ⟨b,ob+n.toNat*q5,none⟩)) ?_ (.ca (.one (.o8 _ b (ob+n.toNat*q5) (u n.toNat) l (λ_=>hR) (λ j c hj => ?_) (λ j c hj=>hr _ cs hn j c hj))))
   ·simp only[execOp,j8,u6,nb,Sem.run_bind]
    rw[nJ ty e inf hu hi ⟨b,ob,none⟩ es.length cap k n h0 (by omega),o9,GO];rfl
   ·rw[Nat.add_assoc]
    exact hc _ cs hn j c hj
end
end Go.c4

namespace Go.c4
open Go.RowKit
section
variable {B:Nat} {S:Nat->Prop} {w0:World} {m:M}
variable {P:Program} {num:Nat->Nat} {o:Oper} {a:Act} {ρ:AM->AV}
theorem aP (t:TypeId) (agg:Bool) (n:Nat) (ch : ∀ w,(isAgg t).run P w = .ok agg w) (hn:if agg then ∃ i,P.info? t=some i/\i.size=n else n=1) (ad:Addr) (vs:List Value) (hl:vs.length=n) (w:World)
  (hc : ∀ q v,vs[q]? = some v->w.cell? (ad.add q)=some v):(Instr.loadAt t (.pointer (some ad))).run P w = .ok (if agg then .agg vs.toArray else vs.getD 0 undef) w:=by
 unfold Instr.loadAt loadVar;simp only[Instr.sureAddr,Sem.run_bind,Sem.run_pure,Result.andThen_ok,ch w];cases agg with
 | true =>
  simp only[if_true]at hn;obtain ⟨i,hi,hs⟩:=hn;have:=run_loadCells_list (P:=P) w ad vs hc
  simp [sizeOf,typeInfo,hi,hs,<-hl,this]
 | false =>
  simp only[Bool.false_eq_true,if_false]at hn ⊢;have l6:0<vs.length:=by omega
  have h0:=hc 0 vs[0] (zE l6);have qy:w.cell? ad=some vs[0]:=by simpa [Addr.add] using h0
  simp [load,Sem.run,qy,l6]
theorem mO (hm:BI B S w0 m) {s t i j n:Nat} {cs:List AV} (h:m.own.kb s t i j n=some cs) : ∃ b g arr e,m.own.get s t=some b/\(0<n->m.ν s t=some g/\m.w.heap[g]? = some (.cells arr e (0,0))) /\
  ∃ vs:List Value,vs.length=n/\CL B S m cs vs /\ ∀ q v,vs[q]? = some v->arr[i*b.a6+j+q]? = some v:=by
 unfold AH.kb at h;cases hb:m.own.get s t with
 | none=>simp [hb]at h
 | some b =>
  simp only[hb]at h;cases he:b.es[i]? with
  | none=>simp [he]at h
  | some ds =>
   simp only[he,part]at h;split at h
   ·rename_i hle
    obtain rfl:(ds.drop j).take n=cs:=by simpa using h
    obtain ⟨hz,y7⟩:=hm.e8 s t b hb;cases hν:m.ν s t with
    | none =>
     rw[hν]at y7;rw[y7]at he;simp at he
    | some g =>
     rw[hν]at y7;obtain ⟨hB,arr,e,hh,q9⟩:=y7;have o9 : ∀ q,q<n -> ∃ u,arr[i*b.a6+j+q]? = some u:=λ q hq=>by
      have l6:j+q<ds.length:=by omega
      obtain ⟨u,hu,_⟩:=q9 i ds he (j+q) ds[j+q] (zE l6);exact ⟨u,by rw[<-hu];congr 1;omega⟩
     refine ⟨b,g,arr,e,rfl,λ_=>⟨rfl,hh⟩,(arr.toList.drop (i*b.a6+j)).take n,?_,⟨?_,?_⟩,?_⟩
     ·rw[List.length_take,List.length_drop]
      rcases Nat.eq_zero_or_pos n with h0|h0
      ·omega
      ·obtain ⟨u,hu⟩:=o9 (n-1) (by omega)
       have:=(Array.getElem?_eq_some_iff.1 hu).1
       simp;omega
     ·rw[List.length_take,List.length_take,List.length_drop,List.length_drop]
      rcases Nat.eq_zero_or_pos n with h0|h0
      ·omega
      ·obtain ⟨u,hu⟩:=o9 (n-1) (by omega)
       have:=(Array.getElem?_eq_some_iff.1 hu).1
       simp;omega
     ·intro q c v hq hv
      rw[List.getElem?_take]at hq hv;split at hq
      ·rename_i Aj
       rw[if_pos Aj]at hv;rw[List.getElem?_drop]at hq hv;obtain ⟨u,hu,hc⟩:=q9 i ds he (j+q) c hq;have:some u=some v:=by
        rw[<-hu,<-hv];simp only[Array.getElem?_toList];congr 1;omega
       obtain rfl:u=v:=by simpa using this
       exact hc
      ·cases hq
     ·intro q v hv
      rw[List.getElem?_take]at hv;split at hv
      ·rw[List.getElem?_drop]at hv
       simpa using hv
      ·cases hv
   ·cases h
theorem UV {w:World} {g p:Nat} {arr:Array Value} {e:TypeId} (h:w.heap[g]? = some (.cells arr e (0,0))):w.cell? ⟨g,p,none⟩=arr[p]? := by
 simp [World.cell?,h]
theorem xC (hm:BI B S w0 m) (hs:CD B S m ρ a.eval) {agg:Bool} {n:Nat} {x':AM} (h:A2 P num o.op (.ld agg n x')=true) {s t i j:Nat} {cs:List AV} {v:AV} (hx:ρ x' = .ptr s t i j) (hl:m.own.kb s t i j n=some cs) (hv:H6 agg cs=some v) :
  CF B S w0 P o a m (.val v):=by
 obtain ⟨ty,x,j8,h1,ch,hn⟩:=kQ h;obtain ⟨ad,u6,ht,hb⟩:=QP (hx ▸ hs x x' h1);obtain ⟨b,g,arr,e,l7,hg,vs,gv,n6,et⟩:=mO hm hl;obtain ⟨q6,_⟩:=S7 hv n6;refine DS hm ?_ q6;simp only[execOp,j8,Sem.run_bind,u6];rw[aP ty agg n ch hn ad vs gv m.w (λ q u hq => ?_)]
 ·rfl
 ·have l6:q<vs.length:=(zS hq).1
  obtain ⟨vh,fr⟩:=hg (by omega);obtain ⟨g',ag,rfl⟩:=hb b l7;obtain rfl:g=g':=by rw[vh]at ag;simpa using ag
  rw[GO,UV fr];exact et q u hq
theorem xB (hm:BI B S w0 m) (hs:CD B S m ρ a.eval) {agg:Bool} {n:Nat} {x':AM} (h:A2 P num o.op (.ld agg n x')=true) {cs ds:List AV} {v:AV} (hx:ρ x' = .o8 cs) (hl:part cs 0 n=some ds) (hv:H6 agg ds=some v) :
  CF B S w0 P o a m (.val v):=by
 obtain ⟨ty,x,j8,h1,ch,hn⟩:=kQ h;obtain ⟨b,ob,u,l,u6,hR,hc,hr⟩:=XV (hx ▸ hs x x' h1);unfold c4.part at hl;split at hl
 ·rename_i hle
  obtain rfl:(cs.drop 0).take n=ds:=by simpa using hl
  have n6:CL B S m ((cs.drop 0).take n) ((List.range n).map u):=by
   refine ⟨by simp;omega,λ q c v' hq je => ?_⟩;simp only[List.drop_zero,List.getElem?_take]at hq;split at hq
   ·rename_i Aj
    simp [Aj]at je;subst je;exact .rd (hr q c hq)
   ·cases hq
  obtain ⟨q6,_⟩:=S7 hv n6;refine DS hm ?_ q6;simp only[execOp,j8,Sem.run_bind,u6];rw[aP ty agg n ch hn ⟨b,ob,none⟩ ((List.range n).map u) (by simp) m.w (λ q w' hq => ?_)]
  ·rfl
  ·have Aj:q<n:=by have:=(zS hq).1;simpa using this
   simp [Aj]at hq;subst hq;rw[GO];exact hc q cs[q] (zE (by omega))
 ·cases hl
theorem WL {α:Type} (l:List α) (off:Nat) (vs:List α) (h:off+vs.length<=l.length) (q:Nat):(l.take off++vs++l.drop (off+vs.length))[q]? = if q<off then l[q]? else if q<off+vs.length then vs[q-off]? else l[q]? := by
 rw[List.append_assoc];by_cases h1:q<off
 ·rw[if_pos h1,List.getElem?_append_left (by simp;omega),List.getElem?_take,if_pos h1]
 ·rw[if_neg h1,List.getElem?_append_right (by simp;omega)]
  have e1:(l.take off).length=off:=by simp;omega
  rw[e1];by_cases h2:q<off+vs.length
  ·rw[if_pos h2,List.getElem?_append_left (by omega)]
  ·rw[if_neg h2,List.getElem?_append_right (by omega),List.getElem?_drop]
   congr 1;omega
theorem XG (hm:BI B S w0 m) {g:Nat} (hB:B<=g) (arr:Array Value):Below B w0 (m.w.setRow g arr) :=
 hm.below.trans ⟨rfl,rfl,rfl,by simp,λ k hk=>setRow_other _ _ _ _ (by omega)⟩
theorem gM (hm:BI B S w0 m) (hs:CD B S m ρ a.eval) {n:Nat} {x' v':AM} (h:A2 P num o.op (.st n x' v')=true) {s t i j:Nat} {vs:List AV} {l8:AH} (hx:ρ x' = .ptr s t i j) (hv:cellsOf (ρ v')=some vs) (hn:vs.length=n) (j9:m.own.gi s t i j vs=some l8) :
  CF B S w0 P o a m (.z0 (.j5 []) l8):=by
 obtain ⟨ty,x,v,inf,j8,h1,h2,hi,o9⟩:=Mw h;obtain ⟨ad,u6,ht,hb⟩:=QP (hx ▸ hs x x' h1);have n6:=U4 (hs v v' h2) hv;unfold AH.gi at j9;cases l7:m.own.get s t with
 | none=>simp [l7]at j9
 | some b =>
  simp only[l7]at j9;cases he:b.es[i]? with
  | none=>simp [he]at j9
  | some cs =>
   simp only[he]at j9;split at j9
   ·rename_i hle
    obtain rfl:=Option.some.inj j9;obtain ⟨hz,y7⟩:=hm.e8 s t b l7;obtain ⟨g,hg,rfl⟩:=hb b l7;rw[hg]at y7;obtain ⟨hB,arr,e,hh,q9⟩:=y7;have oi:cs.length=b.a6:=hz cs (zM he);have hlen:(a.eval v).cells.toList.length=vs.length:=n6.1.symm;have dk:i<b.es.length:=(zS he).1;have vk:i*b.a6+j+vs.length<=arr.size:=by
     rcases Nat.eq_zero_or_pos vs.length with h0|h0
     ·rcases Nat.eq_zero_or_pos j with zs|zs
      ·rw[h0,zs]
       rcases Nat.eq_zero_or_pos i with lj|lj
       ·rw[lj];omega
       ·rcases Nat.eq_zero_or_pos b.a6 with ay|ay
        ·rw[ay];omega
        ·have xh:i-1<b.es.length:=by omega
         have ft:(b.es[i-1]).length=b.a6:=hz _ (List.getElem_mem xh);obtain ⟨u,hu,_⟩:=q9 (i-1) _ (zE xh) (b.a6-1) _ (zE (by omega));have:=(Array.getElem?_eq_some_iff.1 hu).1
         have e1:(i-1)*b.a6+b.a6=i*b.a6:=by
          rw[<-Nat.succ_mul];congr 1;omega
         omega
      ·obtain ⟨u,hu,_⟩:=q9 i cs he (j-1) cs[j-1] (zE (by omega))
       have:=(Array.getElem?_eq_some_iff.1 hu).1
       omega
     ·obtain ⟨u,hu,_⟩:=q9 i cs he (j+vs.length-1) cs[j+vs.length-1] (zE (by omega))
      have:=(Array.getElem?_eq_some_iff.1 hu).1
      omega
    have cp:=uF n6;have pn:=run_storeCells_at (P:=P) g (i*b.a6+j) e (a.eval v).cells.toList 0 arr m.w hh (by rw[hlen];omega) cp;generalize cu:(arr.toList.take (i*b.a6+j+0)++(a.eval v).cells.toList++arr.toList.drop (i*b.a6+j+0+(a.eval v).cells.toList.length)).toArray=n8 at pn;have si : ∀ p,n8[p]? = if p<i*b.a6+j then arr[p]? else if p<i*b.a6+j+vs.length then (a.eval v).cells.toList[p-(i*b.a6+j)]? else arr[p]? := λ p=>by
     rw[<-cu];simp only[Nat.add_zero,List.getElem?_toArray];rw[WL _ _ _ (by rw[hlen];simpa using vk),hlen];simp only[Array.getElem?_toList]
    have ep:n8.size=arr.size:=by
     rw[<-cu];simp [hlen];have:=hlen
     simp at this;omega
    obtain ⟨k1,k2⟩:=oY hm s t b ⟨b.a6,b.es.set i (splice cs j vs)⟩ l7 g hg arr n8 e hh rfl (λ y hy=>by
      rcases List.mem_or_eq_of_mem_set hy with hy|hy
      ·exact hz y hy
      ·rw[hy,<-oi];simp [splice];omega) ep
     (λ i' bm m4 q c hq=>by
      show ∃ u,n8[i'*b.a6+q]? = some u/\_;change (b.es.set i (splice cs j vs))[i']? = some bm at m4;by_cases Hx:i'=i
      ·subst Hx
       rw[List.getElem?_set_self dk]at m4;obtain rfl:splice cs j vs=bm:=by simpa using m4
       unfold splice at hq;rw[WL _ _ _ hle]at hq;rw[si];by_cases tf:q<j
       ·rw[if_pos tf]at hq
        rw[if_pos (by omega)];exact q9 i' cs he q c hq
       ·rw[if_neg tf]at hq
        rw[if_neg (by omega)];by_cases xp:q<j+vs.length
        ·rw[if_pos xp]at hq
         rw[if_pos (by omega)];obtain ⟨u,hu,y9⟩:=QO n6 hq;exact ⟨u,by rw[<-hu];congr 1;omega,y9⟩
        ·rw[if_neg xp]at hq
         rw[if_neg (by omega)];exact q9 i' cs he q c hq
      ·rw[List.getElem?_set_ne (by omega)]at m4
       have Ai:q<b.a6:=by
        rw[<-hz bm (zM m4)];exact (zS hq).1
       obtain ⟨u,hu,y9⟩:=q9 i' bm m4 q c hq;refine ⟨u,?_,y9⟩;rw[si,<-hu];rcases Nat.lt_or_gt_of_ne Hx with l6|ml
       ·have:(i'+1)*b.a6<=i*b.a6:=Nat.mul_le_mul_right _ l6
        rw[Nat.succ_mul]at this;rw[if_pos (by omega)]
       ·have:(i+1)*b.a6<=i'*b.a6:=Nat.mul_le_mul_right _ ml
        rw[Nat.succ_mul]at this;rw[if_neg (by omega),if_neg (by omega)])
     (m.w.setRow g n8) (XG hm hB n8) (by simp) (λ k hk=>setRow_other _ _ _ _ hk) (setRow_heap _ _ _ _ _ _ hh)
    intro K Q hK;refine Rr (w':=m.w.setRow g n8) ?_ (hK undef ⟨m.ν,_,m.w.setRow g n8⟩ rfl k1 k2 lK);have Ft:(a.eval v).cells.size=inf.size:=by rw[o9,<-hn,<-hlen];simp
    simp only[execOp,j8,u6,Instr.storeAt,storeVar,Instr.sureAddr,Sem.run_bind,Sem.run_pure,Result.andThen_ok,sizeOf,typeInfo,run_program,hi];rw[if_neg (by simpa using Ft)];simp only[Sem.run_bind,Sem.run_pure,Result.andThen_ok,pn]
   ·cases j9
theorem xF (hm:BI B S w0 m) (hs:CD B S m ρ a.eval) {s a6 bytes:Nat} {zero:List AV} {l' c':AM} (h:A2 P num o.op (.mk s a6 bytes zero l' c')=true) {kl kc:IntKind} {l c:Int} (hl:ρ l' = .int kl l) (hc:ρ c' = .int kc c) (h0:0<=l) (de:l<=c) (hb:c*bytes<=EA) (ug:c<=9223372036854775807) (hz:zero.length=a6) :
  CF B S w0 P o a m (.new s ⟨a6,List.replicate l.toNat zero⟩ (λ t => .row s t a6 0 l.toNat)):=by
 obtain ⟨ty,lx,cx,e,inf,z,j8,h1,h2,hu,hi,o9,gm,ay,bk,k8⟩:=Mp h;have el:=GC (hl ▸ hs lx l' h1);have ec:=GC (hc ▸ hs cx c' h2);have n6:CL B S m zero z.cells.toList:=QV bk;have Wy:z.cells.size=a6:=by rw[<-hz,n6.1];simp
 refine gL hm s a6 l.toNat c.toNat _ (madeCells z.cells (c.toNat*inf.size)) e (Nat.pos_of_ne_zero k8) (by omega) (by rw[size_madeCells,o9];exact Nat.le_refl _) (λ x hx=>by rw[(List.mem_replicate.1 hx).2,hz]) (λ i cs m4 j c1 hj => ?_) ?_
 ·rw[List.getElem?_replicate]at m4
  split at m4
  ·rename_i dk
   obtain rfl:zero=cs:=by simpa using m4
   obtain ⟨u,bq,y9⟩:=QO n6 hj;refine ⟨u,?_,y9⟩;have bp:j<a6:=by rw[<-hz];exact (zS hj).1
   have l6:i*a6+j<c.toNat*inf.size:=by
    rw[o9];have h3:(i+1)*a6<=c.toNat*a6:=Nat.mul_le_mul_right _ (by omega);rw[Nat.succ_mul]at h3;omega
   have Er:(i*a6+j)%z.cells.size=j:=by rw[Wy,Nat.add_comm,Nat.add_mul_mod_self_right,Nat.mod_eq_of_lt bp]
   have xu:z.cells[j]? = some u:=by simpa using bq
   have Vb:j<z.cells.size:=(Array.getElem?_eq_some_iff.1 xu).1;have er:z.cells[j]=u:=(Array.getElem?_eq_some_iff.1 xu).2;simp [madeCells,l6,Er,Vb,er]
  ·cases m4
 ·have:=run_make (P:=P) m.w ty e inf z hu hi ay kl kc l c h0 de (by rw[gm,Int.mul_comm];simp only[EA]at hb;omega) ug
  simp only[execOp,j8,el,ec,Sem.run_bind,this,Result.andThen_ok,Sem.run_pure]
theorem wS (hm:BI B S w0 m) (hs:CD B S m ρ a.eval) {x':AM} {i:Nat} (h:A2 P num o.op (.ext x' i)=true) {vs:List AV} {v:AV} (hx:ρ x' = .j5 vs) (hv:vs[i]? = some v):CF B S w0 P o a m (.val v):=by
 obtain ⟨x,j8,h1⟩:=Ou h;obtain ⟨us,u6,hl,hc⟩:=XX (hx ▸ hs x x' h1);have l6:i<us.length:=by rw[<-hl];exact (zS hv).1
 refine DS hm (u:=us[i]) ?_ (.ca (hc i v us[i] hv (zE l6)));simp [execOp,j8,u6,Instr.extract,l6]
theorem xD (hm:BI B S w0 m) (hs:CD B S m ρ a.eval) {x':AM} (h:A2 P num o.op (.len x')=true) {n:Nat} (hx:lenOf (ρ x')=some n):CF B S w0 P o a m (.val (.int .i64 n)):=by
 obtain ⟨x,t,e,j8,h1,hu⟩:=Mo h;have q6:=hs x x' h1;obtain ⟨ad,cap,u6⟩ : ∃ ad cap,a.eval x = .slice ad n cap:=by
  generalize ρ x'=av at *;cases av with
  | sl l es =>
   have hr:=U5 q6;simp only[lenOf,Option.some.injEq]at hx;subst hx;generalize a.eval x=v at *;cases hr with
   | ew=>exact ⟨_,_,rfl⟩
   | sl=>exact ⟨_,_,rfl⟩
  | row s t z off len =>
   obtain ⟨ad,cap,hv,_⟩:=PI q6;simp only[lenOf,Option.some.injEq]at hx;subst hx;exact ⟨ad,cap,hv⟩
  | nil =>
   simp only[lenOf,Option.some.injEq]at hx;subst hx;exact ⟨_,_,NJ q6⟩
  | _=>simp [lenOf]at hx
 refine DS hm (u := .int .i64 n) ?_ (JY _ _);simp [execOp,j8,resolve,invoke,builtin,u6,Builtin.len_,run_underlying hu,goInt]
theorem wO (hm:BI B S w0 m) (hs:CD B S m ρ a.eval) {x':AM} (h:A2 P num o.op (.dd x')=true) (hx:ρ x' = .nil):CF B S w0 P o a m (.val (.int .i64 0)):=by
 obtain ⟨x,t,e,j8,h1,hu⟩:=Oo h;have u6:=NJ (hx ▸ hs x x' h1);refine DS hm (u := .int .i64 0) ?_ (JY _ _);simp [execOp,j8,resolve,invoke,builtin,u6,Builtin.cap_,run_underlying hu,goInt]
theorem QU (hs:CD B S m ρ a.eval) : ∀ {xs:List Operand} {ys:List AM},DX xs ys=true->xs.length=ys.length /\ ∀ (j:Nat) (x:Operand) (y:AM),xs[j]? = some x->ys[j]? = some y->CV B S m (ρ y) (a.eval x)
 | [],[],_=>⟨rfl,λ j x y h=>by simp at h⟩
 | x::r,y::l,h=>by
  simp only[DX,Bool.and_eq_true]at h;obtain ⟨Xa,jg⟩:=QU hs h.2;refine ⟨by simp [Xa],λ j x' y' hx hy => ?_⟩;cases j with
  | zero=>simp at hx hy;subst hx hy;exact hs _ _ h.1
  | succ j=>exact jg j x' y' (by simpa using hx) (by simpa using hy)
 | [],_::_,h=>by simp [DX]at h
 | _::_,[],h=>by simp [DX]at h
theorem nK (mx:Bool) (hs:CD B S m ρ a.eval) (w:World) : ∀ (xs:List Operand) (ys:List AM) (v:AV) (u:Value) (r:AV),DX xs ys=true->CV B S m v u->JB mx v (ys.map ρ)=some r->(∃ k n,v = .int k n) -> ∃ k n,r = .int k n /\
  ((xs.map a.eval).foldlM (if mx then Builtin.max2 else Builtin.min2) u).run P w = .ok (.int k n) w
 | [],[],v,u,r,_,hc,hm,⟨k,n,hv⟩=>by
  simp only[List.map_nil,JB,Option.some.injEq]at hm;subst hm hv;obtain rfl:=GC hc;exact ⟨k,n,rfl,by simp⟩
 | x::xr,y::yr,v,u,r,he,hc,hm,⟨k,n,hv⟩=>by
  simp only[DX,Bool.and_eq_true]at he;simp only[List.map_cons,JB]at hm;have hx:=hs x y he.1;subst hv;obtain rfl:=GC hc;cases hy:ρ y with
  | int k' n' =>
   rw[hy]at hx hm;have Wr:=GC hx;simp only[NT]at hm;obtain ⟨k2,n2,rfl,h2⟩:=nK mx hs w xr yr _ (.int k (if mx then (if n'>n then n' else n) else (if n'<n then n' else n))) r he.2 (JY _ _) hm ⟨_,_,rfl⟩;refine ⟨k2,n2,rfl,?_⟩;simp only[List.map_cons,List.foldlM_cons,Sem.run_bind,Wr];cases mx
   ·simpa [Builtin.min2] using h2
   ·simpa [Builtin.max2] using h2
  | _=>rw[hy]at hm;simp [NT]at hm
 | [],_::_,_,_,_,he,_,_,_=>by simp [DX]at he
 | _::_,[],_,_,_,he,_,_,_=>by simp [DX]at he
theorem xH (hm:BI B S w0 m) (hs:CD B S m ρ a.eval) {mx:Bool} {m8:List AM} (h:A2 P num o.op (.mm mx m8)=true) {v r:AV} {l:List AV} (hx:m8.map ρ=v::l) (hv:JB mx v l=some r) (hi : ∃ k n,v = .int k n):CF B S w0 P o a m (.val r):=by
 obtain ⟨xs,ts,j8,he⟩:=kR h;cases m8 with
 | nil=>simp at hx
 | cons y yr =>
  simp only[List.map_cons,List.cons.injEq]at hx;obtain ⟨rfl,rfl⟩:=hx;obtain ⟨xl⟩:=xs;cases xl with
  | nil=>simp [DX]at he
  | cons x xr =>
   simp only[DX,Bool.and_eq_true]at he;obtain ⟨k,n,rfl,m6⟩:=nK (P:=P) mx hs m.w xr yr (ρ y) (a.eval x) r he.2 (hs x y he.1) hv hi;refine DS hm (u := .int k n) ?_ (JY _ _);cases mx
   ·simp only[execOp,j8,resolve,invoke,builtin,Builtin.min_,Sem.run_bind,Sem.run_pure,Result.andThen_ok]at m6 ⊢
    simp at m6 ⊢;rw[m6];rfl
   ·simp only[execOp,j8,resolve,invoke,builtin,Builtin.max_,Sem.run_bind,Sem.run_pure,Result.andThen_ok]at m6 ⊢
    simp at m6 ⊢;rw[m6];rfl
end
end Go.c4

namespace Go.c4
open Go.RowKit
section
variable {B:Nat} {S:Nat->Prop} {w0:World} {m:M}
variable {P:Program} {num:Nat->Nat} {o:Oper} {a:Act} {ρ:AM->AV}
def GP (ρ:AM->AV) (d:Nat):Option AM->Option Int
 | none=>some d
 | some y=>match ρ y with | .int _ n=>some n|_=>none
theorem WD (ty e:TypeId) (inf:TypeInfo) (hu:P.underlying ty=some (.slice e)) (hi:P.info? e=some inf) (hs:CD B S m ρ a.eval) {lo m4:Option Operand} {ji zq:Option AM} (jc:MW lo ji=true) (Ca:MW m4 zq=true)
  (ad:Option Addr) (len cap:Nat) (l h:Int) (hl:GP ρ 0 ji=some l) (hh:GP ρ len zq=some h) (h0:0<=l) (Yj:l<=h) (Yf:h<=len) (de:len<=cap) (w:World) :
  (Instr.sliceAt ty (.slice ad len cap) (lo.map a.eval) (m4.map a.eval) none).run P w = .ok (.slice (if cap=l.toNat then ad else ad.map (·.add (l.toNat*inf.size))) (h.toNat-l.toNat) (cap-l.toNat)) w:=by
 have nb : ∀ {x:Option Operand} {y:Option AM} {d:Nat} {n:Int},MW x y=true->GP ρ d y=some n->(x=none/\y=none/\n=d) \/ ∃ x' k,x=some x'/\a.eval x' = .int k n:=by
  intro x y d n nk hb;cases x with
  | none=>cases y with
   | none=>simp [GP]at hb;exact .inl ⟨rfl,rfl,hb.symm⟩
   | some y=>simp [MW]at nk
  | some x=>cases y with
   | none=>simp [MW]at nk
   | some y =>
    simp only[MW]at nk;simp only[GP]at hb;cases hy:ρ y with
    | int k q =>
     rw[hy]at hb;simp only[Option.some.injEq]at hb;subst hb;exact .inr ⟨x,k,rfl,GC (hy ▸ hs x y nk)⟩
    | _=>rw[hy]at hb;cases hb
 have su:h<=(cap:Int):=by omega
 unfold Instr.sliceAt Instr.slice Instr.sliceBounds;rcases nb jc hl with ⟨rfl,_,rfl⟩|⟨x1,k1,rfl,e1⟩<;>rcases nb Ca hh with ⟨rfl,_,rfl⟩|⟨x2,k2,rfl,e2⟩
 ·simp [run_underlying hu,sizeOf,typeInfo,hi]
 ·have uw:=run_sliceBound (P:=P) w k2 h cap .sliceAcap (by omega) su
  simp [run_underlying hu,sizeOf,typeInfo,hi,e2,uw]
 ·have o7:=run_sliceBound (P:=P) w k1 l len .sliceB h0 (by omega)
  simp [run_underlying hu,sizeOf,typeInfo,hi,e1,o7]
 ·have uw:=run_sliceBound (P:=P) w k2 h cap .sliceAcap (by omega) su
  have o7:=run_sliceBound (P:=P) w k1 l h.toNat .sliceB h0 (by omega);simp [run_underlying hu,sizeOf,typeInfo,hi,e1,e2,uw,o7]
theorem xM (hm:BI B S w0 m) (hs:CD B S m ρ a.eval) {a6:Nat} {x':AM} {ji m4:Option AM} (h:A2 P num o.op (.dc a6 x' ji m4)=true) (hx:ρ x' = .nil) (hl:GP ρ 0 ji=some 0) (hh:GP ρ 0 m4=some 0):CF B S w0 P o a m (.val .nil):=by
 obtain ⟨ty,x,lo,gn,e,inf,j8,h1,h2,h3,hu,hi,o9,k8⟩:=ZM h;have u6:=NJ (hx ▸ hs x x' h1);have m6:=WD ty e inf hu hi hs h2 h3 none 0 0 0 0 hl hh (by omega) (by omega) (by omega) (by omega) m.w;refine DS hm (u := .slice none 0 0) ?_ (.ca (.one .nil));simp only[execOp,j8,u6,Sem.run_bind,Option.map_none,m6];rfl
theorem xN (hm:BI B S w0 m) (hs:CD B S m ρ a.eval) {a6:Nat} {x':AM} {ji m4:Option AM} (h:A2 P num o.op (.dc a6 x' ji m4)=true) {s t z off len:Nat} {l u:Int} (hx:ρ x' = .row s t z off len) (hl:GP ρ 0 ji=some l) (hh:GP ρ len m4=some u) (h0:0<=l) (Cd:l<=u) (er:u<=len) (hz:z=a6) :
  CF B S w0 P o a m (.val (.row s t z (off+l.toNat) (u.toNat-l.toNat))):=by
 obtain ⟨ty,x,lo,gn,e,inf,j8,h1,h2,h3,hu,hi,o9,k8⟩:=ZM h;obtain ⟨ad,cap,u6,ht,ay,de,ha,hb⟩:=PI (hx ▸ hs x x' h1);have m6:=WD ty e inf hu hi hs h2 h3 ad len cap l u hl hh h0 Cd er de m.w;refine DS hm ?_ (.ca (.one (.row s t z (off+l.toNat) (u.toNat-l.toNat) (if cap=l.toNat then ad else ad.map (·.add (l.toNat*inf.size))) (cap-l.toNat) ht ay (by omega) (λ hp => ?_) λ b k6 => ?_)))
 ·simp only[execOp,j8,u6,Sem.run_bind,Option.map_none,m6]
  rfl
 ·rw[if_neg (by omega)]
  obtain ⟨wc,rfl⟩:=Option.isSome_iff_exists.1 (ha (by omega));rfl
 ·obtain ⟨eb,au⟩:=hb b k6
  refine ⟨eb,?_⟩;rcases au with ⟨nc,cj⟩|⟨g,arr,e',hg,fc,Bz,hle⟩
  ·exact .inl ⟨by omega,by omega⟩
  ·by_cases hc:cap=l.toNat
   ·exact .inl ⟨by omega,by omega⟩
   ·refine .inr ⟨g,arr,e',hg,?_,Bz,?_⟩
    ·rw[if_neg hc,fc,o9,hz]
     simp only[Option.map_some,GO,Nat.add_mul]
    ·rw[show off+l.toNat+(cap-l.toNat)=off+cap by omega]
     exact hle
theorem xO (hm:BI B S w0 m) (hs:CD B S m ρ a.eval) {a6:Nat} {x':AM} {ji m4:Option AM} (h:A2 P num o.op (.dc a6 x' ji m4)=true) {lt:Bool} {es:List (List AV)} {l u:Int} (hx:ρ x' = .sl lt es) (hl:GP ρ 0 ji=some l) (hh:GP ρ es.length m4=some u) (h0:0<=l) (Cd:l<=u) (er:u<=es.length) (hz : ∀ e∈es,e.length=a6) :
  CF B S w0 P o a m (.val (.sl lt ((es.take u.toNat).drop l.toNat))):=by
 obtain ⟨ty,x,lo,gn,e,inf,j8,h1,h2,h3,hu,hi,o9,k8⟩:=ZM h;have gq:=U5 (hx ▸ hs x x' h1);generalize u6:a.eval x=v at gq;cases gq with
 | ew _ ad cap =>
  have m6:=WD ty e inf hu hi hs h2 h3 ad 0 cap l u hl hh h0 Cd (by simpa using er) (by omega) m.w;simp only[List.length_nil]at er;rw[show (([]:List (List AV)).take u.toNat).drop l.toNat=[] by simp];refine DS hm (u := .slice (if cap=l.toNat then ad else ad.map (·.add (l.toNat*inf.size))) 0 (cap-l.toNat)) ?_ (.ca (.one (.rd (.ew lt _ _))));simp only[execOp,j8,u6,Sem.run_bind,Option.map_none,m6];rw[show u.toNat-l.toNat=0 by omega];rfl
 | sl _ _ b ob q5 cap uu pf hp hR s9 bk hc hr =>
  have m6:=WD ty e inf hu hi hs h2 h3 (some ⟨b,ob,none⟩) es.length cap l u hl hh h0 Cd er s9 m.w;have Bc:q5=a6:=by
   cases es with
   | nil=>exact absurd rfl pf
   | cons q r=>rw[<-bk q (by simp),hz q (by simp)]
  subst Bc;by_cases ay:u.toNat-l.toNat=0
  ·have:(es.take u.toNat).drop l.toNat=[]:=by
    apply List.eq_nil_of_length_eq_zero;simp;omega
   rw[this];refine DS hm (u := .slice (if cap=l.toNat then some ⟨b,ob,none⟩ else (some (⟨b,ob,none⟩:Addr)).map (·.add (l.toNat*inf.size))) 0 (cap-l.toNat)) ?_ (.ca (.one (.rd (Rd.ew lt _ _))));simp only[execOp,j8,u6,Sem.run_bind,Option.map_none,m6];rw[ay];rfl
  ·have hlen:((es.take u.toNat).drop l.toNat).length=u.toNat-l.toNat:=by simp;omega
   have l7 : ∀ i,i<u.toNat-l.toNat->((es.take u.toNat).drop l.toNat)[i]? = es[l.toNat+i]? := λ i m4=>by
    rw[List.getElem?_drop,List.getElem?_take,if_pos (by omega)]
   refine DS hm (u := .slice (some ⟨b,ob+l.toNat*q5,none⟩) ((es.take u.toNat).drop l.toNat).length (cap-l.toNat)) ?_ (.ca (.one (.rd (.sl lt _ b (ob+l.toNat*q5) q5 (cap-l.toNat) (λ i j=>uu (l.toNat+i) j) (λ e=>ay (by rw[<-hlen,e];rfl)) hp hR (by rw[hlen];omega) (λ q hq=>bk q (List.mem_of_mem_take (List.mem_of_mem_drop hq))) (λ i q m4 j c hj => ?_) (λ i q m4 j c hj => ?_)))))
   ·simp only[execOp,j8,u6,Sem.run_bind,Option.map_none,m6]
    rw[if_neg (by omega),hlen,o9];simp only[Option.map_some,GO];rfl
   ·have dk:i<u.toNat-l.toNat:=by rw[<-hlen];exact (zS m4).1
    rw[l7 i dk]at m4;rw[show ob+l.toNat*q5+(i*q5+j)=ob+((l.toNat+i)*q5+j) by rw[Nat.add_mul];omega];exact hc _ q m4 j c hj
   ·have dk:i<u.toNat-l.toNat:=by rw[<-hlen];exact (zS m4).1
    rw[l7 i dk]at m4;exact hr _ q m4 j c hj
structure RQ (B:Nat) (S:Nat->Prop) (m:M) (a6:Nat) (ys:List (List AV)) (ad:Option Addr) (news:List Value):Prop where
 len:news.length=ys.length*a6
 cells : ∀ b,ad=some b -> ∀ j v,news[j]? = some v->m.w.cell? (b.add j)=some v
 some_:ys≠[]->ad.isSome=true
 rel : ∀ i cs,ys[i]? = some cs -> ∀ j c,cs[j]? = some c -> ∃ u,news[i*a6+j]? = some u/\CC B S m c u
theorem vU (a6 i j:Nat) (h:j<a6):(i*a6+j)/a6=i/\(i*a6+j)%a6=j:=by
 constructor
 ·rw[Nat.add_comm,Nat.add_mul_div_right _ _ (by omega),Nat.div_eq_of_lt h,Nat.zero_add]
 ·rw[Nat.add_comm,Nat.add_mul_mod_self_right,Nat.mod_eq_of_lt h]
theorem SJ (hm:BI B S w0 m) {av:AV} {v:Value} (hc:CV B S m av v) {ys:List (List AV)} (he:DT m.own av=some ys) {a6:Nat} (hz : ∀ e∈ys,e.length=a6) (h0:0<a6) :
  ∃ ad cap news,v = .slice ad ys.length cap/\RQ B S m a6 ys ad news:=by
 cases av with
 | sl l es =>
  simp only[DT,Option.some.injEq]at he;subst he;cases U5 hc with
  | ew _ ad cap=>exact ⟨ad,cap,[],rfl,by simp,λ b _ j v hv=>by simp at hv,λ h=>absurd rfl h,λ i cs hi=>by simp at hi⟩
  | sl _ _ b ob q5 cap uu pf hp hR s9 bk n6 hr =>
   have Bc:q5=a6:=by
    cases es with
    | nil=>exact absurd rfl pf
    | cons q r=>rw[<-bk q (by simp),hz q (by simp)]
   subst Bc;refine ⟨some ⟨b,ob,none⟩,cap,(List.range (es.length*q5)).map (λ k=>uu (k/q5) (k%q5)),rfl,by simp,λ b' k6 j v hv => ?_,λ_=>rfl,λ i cs hi j c hj => ?_⟩
   ·obtain rfl:(⟨b,ob,none⟩:Addr)=b':=by simpa using k6
    rw[List.getElem?_map]at hv;have bp:j<es.length*q5:=by
     rcases Nat.lt_or_ge j (es.length*q5) with h|h
     ·exact h
     ·rw[List.getElem?_eq_none (by simpa using h)]at hv;cases hv
    rw[List.getElem?_range bp]at hv;simp only[Option.map_some,Option.some.injEq]at hv;subst hv;have hd:j/q5<es.length:=Nat.div_lt_of_lt_mul (by rw[Nat.mul_comm];exact bp);have Ep:j%q5<q5:=Nat.mod_lt _ h0;have w6:(es[j/q5]).length=q5:=bk _ (List.getElem_mem hd);have:=n6 (j/q5) _ (zE hd) (j%q5) _ (zE (by rw[w6];exact Ep))
    rw[GO,<-this];congr 2;have:=Nat.div_add_mod j q5
    rw[Nat.mul_comm]at this;omega
   ·have bp:j<q5:=by rw[<-bk cs (zM hi)];exact (zS hj).1
    have dk:i<es.length:=(zS hi).1;have l6:i*q5+j<es.length*q5:=by
     have:(i+1)*q5<=es.length*q5:=Nat.mul_le_mul_right _ dk
     rw[Nat.succ_mul]at this;omega
    obtain ⟨e1,e2⟩:=vU q5 i j bp;refine ⟨uu i j,?_,.rd (hr i cs hi j c hj)⟩;rw[List.getElem?_map,List.getElem?_range l6];simp [e1,e2]
 | nil =>
  simp only[DT,Option.some.injEq]at he;subst he;exact ⟨none,0,[],NJ hc,by simp,λ b hb=>(by cases hb),λ h=>absurd rfl h,λ i cs hi=>by simp at hi⟩
 | row s t z off len =>
  obtain ⟨ad,cap,hv,ht,ay,de,ha,hb⟩:=PI hc;simp only[DT]at he;cases l7:m.own.get s t with
  | none=>simp [l7]at he
  | some b =>
   simp only[l7]at he;split at he
   ·rename_i hle
    obtain ⟨hle,eb⟩:=hle;obtain rfl:=Option.some.inj he;have xx:((b.es.drop off).take len).length=len:=by simp;omega
    obtain ⟨_,au⟩:=hb b l7;by_cases nc:len=0
    ·subst nc
     refine ⟨ad,cap,[],by simpa using hv,by simp,λ b _ j v hv=>by simp at hv,λ h=>absurd (by simp) h,λ i cs hi=>by simp at hi⟩
    ·rcases au with ⟨h1,_⟩|⟨g,arr,e',hg,fc,Bz,Vj⟩
     ·exact absurd h1 nc
     ·obtain ⟨bk,y7⟩:=hm.e8 s t b l7
      rw[hg]at y7;obtain ⟨hB,jo,e2,oy,q9⟩:=y7;rw[Bz]at oy;obtain ⟨rfl,rfl⟩:arr=jo/\e'=e2:=by simpa using oy
      have Us:a6=z:=by
       have l6:off<b.es.length:=by omega
       have h1:b.es[off]∈(b.es.drop off).take len:=by
        have:((b.es.drop off).take len)[0]? = some b.es[off]:=by
         rw[List.getElem?_take,if_pos (by omega),List.getElem?_drop];simp [l6]
        exact zM this
       rw[<-hz _ h1,bk _ (List.getElem_mem l6),eb]
      subst Us;have o9:off*a6+len*a6<=arr.size:=by
       have:(off+len)*a6<=(off+cap)*a6:=Nat.mul_le_mul_right _ (by omega)
       rw[Nat.add_mul]at this;omega
      refine ⟨ad,cap,(arr.toList.drop (off*a6)).take (len*a6),by rw[xx];exact hv,by rw[xx];simp;omega,λ b' k6 j v je => ?_,λ_=>by rw[fc];rfl,λ i cs hi j c hj => ?_⟩
      ·rw[fc]at k6
       obtain rfl:(⟨g,off*a6,none⟩:Addr)=b':=by simpa using k6
       rw[List.getElem?_take]at je;split at je
       ·rw[List.getElem?_drop]at je
        rw[GO,UV Bz];simpa using je
       ·cases je
      ·rw[List.getElem?_take]at hi
       split at hi
       ·rename_i dk
        rw[List.getElem?_drop]at hi;have bp:j<a6:=by rw[<-eb,<-bk cs (zM hi)];exact (zS hj).1
        obtain ⟨u,hu,y9⟩:=q9 (off+i) cs hi j c hj;refine ⟨u,?_,y9⟩;have l6:i*a6+j<len*a6:=by
         have:(i+1)*a6<=len*a6:=Nat.mul_le_mul_right _ dk
         rw[Nat.succ_mul]at this;omega
        rw[List.getElem?_take,if_pos l6,List.getElem?_drop,<-hu,eb];simp only[Array.getElem?_toList];congr 1;rw[Nat.add_mul];omega
       ·cases hi
   ·cases he
 | z9 v' =>
  cases v' with
  | bool b =>
   simp only[DT,Option.some.injEq]at he;subst he;obtain ⟨ad,cap,hv,_⟩:=fP hc;exact ⟨ad,cap,[],hv,by simp,λ b' k6 j v je=>by simp at je,λ h=>absurd rfl h,λ i cs hi=>by simp at hi⟩
  | _=>simp [DT]at he
 | _=>simp [DT]at he
theorem RQ.one {a6:Nat} {ys:List (List AV)} {ad:Option Addr} {news:List Value} (h:RQ B S m a6 ys ad news) (h0:0<a6) (hz : ∀ e∈ys,e.length=a6) : ∀ u∈news,u.oneCell'=true:=by
 intro u hu;obtain ⟨k,hk,rfl⟩:=List.getElem_of_mem hu;rw[h.len]at hk;have hd:k/a6<ys.length:=Nat.div_lt_of_lt_mul (by rw[Nat.mul_comm];exact hk);have Ep:k%a6<a6:=Nat.mod_lt _ h0;have w6:(ys[k/a6]).length=a6:=hz _ (List.getElem_mem hd);obtain ⟨u',bq,hc⟩:=h.rel (k/a6) _ (zE hd) (k%a6) _ (zE (by rw[w6];exact Ep));have fe:k/a6*a6+k%a6=k:=by
  have:=Nat.div_add_mod k a6
  rw[Nat.mul_comm]at this;exact this
 rw[fe]at bq;obtain rfl:news[k]=u':=by
  have:=(zS bq).2
  exact this
 exact hc.one
theorem RQ.src {a6:Nat} {ys:List (List AV)} {ad:Option Addr} {news:List Value} (h:RQ B S m a6 ys ad news) (h0:0<a6) (hz : ∀ e∈ys,e.length=a6) {t e:TypeId} (hu:P.underlying t=some (.slice e)) (cap:Nat):Src P a6 t (.slice ad ys.length cap) ys.length news m.w:=by
 cases ad with
 | none =>
  have mq:ys=[]:=by
   cases ys with
   | nil=>rfl
   | cons y r=>exact absurd (h.some_ (by simp)) (by simp)
  subst mq;have hn:news=[]:=List.eq_nil_of_length_eq_zero (by simpa using h.len);subst hn;exact Src.ofNil m.w hu cap
 | some b=>exact Src.ofSlice m.w hu b ys.length cap news h.len (h.cells b rfl) (h.one h0 hz)
theorem lZ (arr:Array Value) (off:Nat) (news:List Value) (h:off+news.length<=arr.size) (p:Nat):(arr.toList.take off++news++arr.toList.drop (off+news.length)).toArray[p]? = if p<off then arr[p]? else if p<off+news.length then news[p-off]? else arr[p]? := by
 simp only[List.getElem?_toArray];rw[WL _ _ _ (by simpa using h)];simp only[Array.getElem?_toList]
theorem Pu (t tx e ex:TypeId) (i:TypeInfo) (ht:P.underlying t=some (.slice e)) (hx:P.underlying tx=some (.slice ex)) (hi:P.info? e=some i) (g off ki mu:Nat) (x:Value) (n:Nat) (news:List Value) (w:World) (hs:Src P i.size tx x n news w) (ax:ki+n<=mu) (arr:Array Value) (e':TypeId)
  (hh:w.heap[g]? = some (.cells arr e' (0,0))) (o9:off+ki*i.size+news.length<=arr.size) (ty:TypeId) :
  (Builtin.append_ #[t,tx] ty #[.slice (some ⟨g,off,none⟩) ki mu,x]).run P w = .ok (.slice (some ⟨g,off,none⟩) (ki+n) mu) (w.setRow g (arr.toList.take (off+ki*i.size)++news++arr.toList.drop (off+ki*i.size+news.length)).toArray):=by
 have j9:=run_storeCells_at (P:=P) g (off+ki*i.size) e' news 0 arr w hh (by omega) hs.one;simp only[Nat.add_zero]at j9;simp [Builtin.append_,run_underlying ht,run_underlying hx,sizeOf,typeInfo,hi,hs.len,ax,hs.cells,GO,j9]
theorem nE (t tx e ex:TypeId) (i:TypeInfo) (ht:P.underlying t=some (.slice e)) (hx:P.underlying tx=some (.slice ex)) (hi:P.info? e=some i) (ad:Option Addr) (mu:Nat) (x:Value) (w:World) (hs:Src P i.size tx x 0 [] w) (ty:TypeId) :
  (Builtin.append_ #[t,tx] ty #[.slice ad 0 mu,x]).run P w = .ok (.slice ad 0 mu) w:=by
 have hc:=hs.cells;cases ad<;>simp [Builtin.append_,run_underlying ht,run_underlying hx,sizeOf,typeInfo,hi,hs.len,hc,storeCells]
theorem P4 {x y:Operand} {t tx:TypeId} (j8:o.op = .call ⟨.builtin .append,#[x,y],#[t,tx]⟩) {u:Value} {w w':World} (h:(Builtin.append_ #[t,tx] o.type #[a.eval x,a.eval y]).run P w = .ok u w'):(execOp a.eval o).run P w = .ok (.value u) w':=by
 simp [execOp,j8,resolve,invoke,builtin,h]
theorem nH {x y:Operand} {t:TypeId} (j8:o.op = .call ⟨.builtin .copy,#[x,y],#[t,t]⟩) {u:Value} {w w':World} (h:(Builtin.copy_ #[t,t] o.type #[a.eval x,a.eval y]).run P w = .ok u w'):(execOp a.eval o).run P w = .ok (.value u) w':=by
 simp [execOp,j8,resolve,invoke,builtin,h]
theorem Kk (aq news:List Value) (z:Array Value) (k p:Nat) (h:p<aq.length+news.length):((aq++news).toArray++Builtin.zeroCells z k)[p]? = (aq++news)[p]? := by
 rw[Array.getElem?_append_left (by simpa using h)];simp
theorem Pn {a6 len:Nat} {xs ys:List (List AV)} {aq news:List Value} (Cp:xs.length=len) (Cf:aq.length=len*a6) (Yt : ∀ e∈xs,e.length=a6)
  (hx : ∀ i cs,xs[i]? = some cs -> ∀ j c,cs[j]? = some c -> ∃ u,aq[i*a6+j]? = some u/\CC B S m c u)
  (hy : ∀ i cs,ys[i]? = some cs -> ∀ j c,cs[j]? = some c -> ∃ u,news[i*a6+j]? = some u/\CC B S m c u) :
  ∀ i cs,(xs++ys)[i]? = some cs -> ∀ j c,cs[j]? = some c -> ∃ u,(aq++news)[i*a6+j]? = some u/\CC B S m c u:=by
 intro i cs hi j c hj;by_cases dk:i<len
 ·rw[List.getElem?_append_left (by omega)]at hi
  obtain ⟨u,hu,hc⟩:=hx i cs hi j c hj;exact ⟨u,by rw[List.getElem?_append_left (by have:=(zS hu).1;omega)];exact hu,hc⟩
 ·rw[List.getElem?_append_right (by omega),Cp]at hi
  obtain ⟨u,hu,hc⟩:=hy (i-len) cs hi j c hj;refine ⟨u,?_,hc⟩;have e1:i*a6=len*a6+(i-len)*a6:=by rw[<-Nat.add_mul];congr 1;omega
  rw[List.getElem?_append_right (by omega),<-hu];congr 1;omega
theorem lQ {s z n cap:Nat} {es:List (List AV)} {w':World} {g t:Nat} {arr:Array Value} {e:TypeId} (hz:0<z) (hn:n<=cap) (hg:w'.heap[g]? = some (.cells arr e (0,0))) (hc:cap*z<=arr.size) :
  CV B S ⟨g9 m s (some g),m.own.put s (((m.own s).m7 t none).new ⟨z,es⟩),w'⟩ (.row s (m.own.g7 s) z 0 n) (.slice (some ⟨g,0,none⟩) n cap):=by
 refine .ca (.one (.row s (m.own.g7 s) z 0 n _ cap ?_ hz hn (λ_=>rfl) λ b' k6=>⟨?_,.inr ⟨g,arr,e,?_,by simp,hg,by simpa using hc⟩⟩))
 ·show _<AH.g7 _ s
  rw[U1];simp
 ·change AH.get _ s _=some b' at k6
  rw[PR,if_pos ⟨rfl,rfl⟩]at k6;obtain rfl:(⟨z,es⟩:DJ)=b':=by simpa using k6
  rfl
 ·simp [g9]
theorem tS (hm:BI B S w0 m) (ob:Obj):Below B w0 (m.w.drew.alloc ob):=hm.below.drew.alloc (by simpa using hm.size) ob
theorem gG (hm:BI B S w0 m) (hs:CD B S m ρ a.eval) {s a6 bytes:Nat} {x' y':AM} (h:A2 P num o.op (.app s a6 bytes x' y')=true) {ys:List (List AV)} (hy:DT m.own (ρ y')=some ys) (hz : ∀ e∈ys,e.length=a6) {s' t len:Nat} {b:DJ} (hx:ρ x' = .row s' t a6 0 len) (l7:m.own.get s' t=some b)
  (eb:b.a6=a6) (hle:len<=b.es.length) (ax:(len+ys.length)*bytes<=EA) (ug:len+ys.length<=9223372036854775807) :
  CF B S w0 P o a m (.z0 (.row s' (m.own.g7 s') a6 0 (len+ys.length)) (m.own.put s' (((m.own s').m7 t none).new ⟨a6,b.es.take len++ys⟩))):=by
 obtain ⟨x,y,ty,e,i,z,tx,ex,j8,h1,h2,hu,hi,o9,gm,ay,bk,k8,qm⟩:=kN h;have h0:0<a6:=Nat.pos_of_ne_zero k8;obtain ⟨ad,cap,u6,ht,_,de,ha,hb⟩:=PI (hx ▸ hs x x' h1);obtain ⟨gk,w5,news,ka,w6⟩:=SJ hm (hs y y' h2) hy hz h0;have il:Src P i.size tx (.slice gk ys.length w5) ys.length news m.w:=by rw[o9];exact w6.src h0 hz qm w5
 obtain ⟨my,y7⟩:=hm.e8 s' t b l7;obtain ⟨_,au⟩:=hb b l7;have im:(b.es.take len).length=len:=by simp;omega
 have tz : ∀ q∈b.es.take len++ys,q.length=a6:=λ q hq=>by
  rcases List.mem_append.1 hq with hq|hq
  ·rw[<-eb];exact my q (List.mem_of_mem_take hq)
  ·exact hz q hq
 intro K Q hK;by_cases ot:len+ys.length<=cap
 ·rcases au with ⟨nc,cj⟩|⟨g,arr,e',hg,fc,hh,zk⟩
  ·have mq:ys=[]:=List.eq_nil_of_length_eq_zero (by omega)
   subst mq;subst nc cj;have te:news=[]:=List.eq_nil_of_length_eq_zero (by simpa using w6.len);subst te;have m6:=nE ty tx e ex i hu qm hi ad 0 (.slice gk 0 w5) m.w (by simpa using il) o.type;obtain ⟨k1,k2⟩:=Z0 hm s' t b ⟨a6,b.es.take 0++[]⟩ l7 none m.w hm.below (Nat.le_refl _) (λ_ _ _=>rfl) (by simp) (by simp) (by simp);refine IZ (P4 j8 (by rw[u6,ka];simpa using m6)) (hK _ ⟨g9 m s' none,m.own.put s' (((m.own s').m7 t none).new ⟨a6,b.es.take 0++[]⟩),m.w⟩ rfl k1 k2 (.ca (.one (.row s' (m.own.g7 s') a6 0 0 ad 0 ?_ h0 (Nat.le_refl _) (λ h=>by omega) λ b' k6=>⟨?_,.inl ⟨rfl,rfl⟩⟩))))
   ·show _<AH.g7 _ s'
    rw[U1];simp
   ·change AH.get _ s' _=some b' at k6
    rw[PR,if_pos ⟨rfl,rfl⟩]at k6;obtain rfl:(⟨a6,b.es.take 0++[]⟩:DJ)=b':=by simpa using k6
    rfl
  ·have uq:ad=some ⟨g,0,none⟩:=by simpa using fc
   rw[hg]at y7;obtain ⟨hB,jo,e2,oy,q9⟩:=y7;rw[hh]at oy;obtain ⟨rfl,rfl⟩:arr=jo/\e'=e2:=by simpa using oy
   have nf:news.length=ys.length*a6:=w6.len;have hbound:len*a6+news.length<=arr.size:=by
    have:(len+ys.length)*a6<=(0+cap)*a6:=Nat.mul_le_mul_right _ (by omega)
    rw[Nat.add_mul]at this;omega
   have m6:=Pu ty tx e ex i hu qm hi g 0 len cap (.slice gk ys.length w5) ys.length news m.w il ot arr e' hh (by rw[o9];omega) o.type;rw[o9,Nat.zero_add]at m6;generalize cu:(arr.toList.take (len*a6)++news++arr.toList.drop (len*a6+news.length)).toArray=n8 at m6;have ag : ∀ p,n8[p]? = if p<len*a6 then arr[p]? else if p<len*a6+news.length then news[p-len*a6]? else arr[p]? := λ p=>by rw[<-cu];exact lZ arr (len*a6) news hbound p
   have ep:n8.size=arr.size:=by rw[<-cu];simp;omega
   obtain ⟨k1,k2⟩:=Z0 hm s' t b ⟨a6,b.es.take len++ys⟩ l7 (some g) (m.w.setRow g n8) (XG hm hB n8) (by simp) (λ k _ pf=>setRow_other _ _ _ _ (λ e=>pf (e ▸ hg))) tz (by simp) (λ g' fr=>by
    obtain rfl:g=g':=by simpa using fr
    refine ⟨hB,.inr hg,n8,e',setRow_heap _ _ _ _ _ _ hh,λ i' cs m4 j c hj => ?_⟩;show ∃ u,n8[i'*a6+j]? = some u/\_;by_cases dk:i'<len
    ·rw[List.getElem?_append_left (by omega),List.getElem?_take,if_pos dk]at m4
     have bp:j<a6:=by rw[<-eb,<-my cs (zM m4)];exact (zS hj).1
     obtain ⟨u,bq,y9⟩:=q9 i' cs m4 j c hj;refine ⟨u,?_,y9⟩;have:(i'+1)*a6<=len*a6:=Nat.mul_le_mul_right _ dk
     rw[Nat.succ_mul]at this;rw[ag,if_pos (by omega),<-bq,eb]
    ·rw[List.getElem?_append_right (by omega),im]at m4
     obtain ⟨u,bq,y9⟩:=w6.rel (i'-len) cs m4 j c hj;refine ⟨u,?_,y9⟩;have er:=(zS bq).1;have e1:i'*a6=len*a6+(i'-len)*a6:=by rw[<-Nat.add_mul];congr 1;omega
     rw[ag,if_neg (by omega),if_pos (by omega),<-bq];congr 1;omega)
   exact IZ (P4 j8 (by rw[u6,ka,uq];exact m6)) (hK _ ⟨g9 m s' (some g),m.own.put s' (((m.own s').m7 t none).new ⟨a6,b.es.take len++ys⟩),m.w.setRow g n8⟩ rfl k1 k2 (lQ h0 ot (setRow_heap _ _ _ _ _ _ hh) (by rw[ep];simpa using zk)))
 ·have sw:cap<len+ys.length:=by omega
  obtain ⟨aq,Cf,hold,Fg⟩ : ∃ aq:List Value,aq.length=len*a6/\(Builtin.firstCells i.size len (.slice ad len cap)).run P m.w.drew = .ok aq.toArray m.w.drew/\(∀ i' cs,(b.es.take len)[i']? = some cs -> ∀ j c,cs[j]? = some c -> ∃ u,aq[i'*a6+j]? = some u/\CC B S m c u):=by
   rcases au with ⟨nc,cj⟩|⟨g,arr,e',hg,fc,hh,zk⟩
   ·subst nc
    refine ⟨[],by simp,?_,λ i' cs m4=>by simp at m4⟩;cases ad with
    | none=>exact run_firstCells_none m.w.drew i.size 0 0 cap
    | some wc=>exact run_firstCells_some m.w.drew i.size 0 wc 0 cap [] (by simp) (λ j v hv=>by simp at hv)
   ·have uq:ad=some ⟨g,0,none⟩:=by simpa using fc
    rw[hg]at y7;obtain ⟨hB,jo,e2,oy,q9⟩:=y7;rw[hh]at oy;obtain ⟨rfl,rfl⟩:arr=jo/\e'=e2:=by simpa using oy
    have n6:len*a6<=arr.size:=by
     have:len*a6<=(0+cap)*a6:=Nat.mul_le_mul_right _ (by omega)
     omega
    refine ⟨arr.toList.take (len*a6),by simp;omega,?_,λ i' cs m4 j c hj => ?_⟩
    ·rw[uq]
     refine run_firstCells_some m.w.drew i.size len ⟨g,0,none⟩ len cap _ (by rw[o9];simp;omega) (λ j v hv => ?_);rw[List.getElem?_take]at hv;split at hv
     ·rw[GO,UV (w:=m.w.drew) (show m.w.heap[g]? = _ from hh)]
      simpa using hv
     ·cases hv
    ·rw[List.getElem?_take]at m4
     split at m4
     ·rename_i dk
      have bp:j<a6:=by rw[<-eb,<-my cs (zM m4)];exact (zS hj).1
      obtain ⟨u,bq,y9⟩:=q9 i' cs m4 j c hj;refine ⟨u,?_,y9⟩;have:(i'+1)*a6<=len*a6:=Nat.mul_le_mul_right _ dk
      rw[Nat.succ_mul]at this;rw[List.getElem?_take,if_pos (by omega),<-bq,eb];simp
     ·cases m4
  have m6:=run_append_grow_src (P:=P) m.w ty tx o.type e i z hu hi ay ad len cap aq hold (.slice gk ys.length w5) ys.length news il sw (by omega) (growslice_fits sw (by rw[gm];exact ax));have nf:news.length=ys.length*a6:=w6.len;have s9:len+ys.length<=grownCap m.w (len+ys.length) cap e:=grownCap_ge _ _ _ _;generalize wz:grownCap m.w (len+ys.length) cap e=gc at m6 s9;have ea:=tS hm (.cells ((aq++news).toArray++Builtin.zeroCells z.cells (gc-(len+ys.length))) e);have gd:(m.w.drew.alloc (.cells ((aq++news).toArray++Builtin.zeroCells z.cells (gc-(len+ys.length))) e)).heap[m.w.heap.size]? = some (.cells ((aq++news).toArray++Builtin.zeroCells z.cells (gc-(len+ys.length))) e (0,0)):=heap_alloc_new m.w.drew _;obtain ⟨k1,k2⟩:=Z0 hm s' t b ⟨a6,b.es.take len++ys⟩ l7 (some m.w.heap.size) _ ea (by simp) (λ k hk _=>Below.heap_alloc m.w.drew _ k hk) tz (by simp) (λ g' fr=>by
   obtain rfl:m.w.heap.size=g':=by simpa using fr
   refine ⟨hm.size,.inl (Nat.le_refl _),_,e,gd,λ i' cs m4 j c hj => ?_⟩;obtain ⟨u,bq,y9⟩:=Pn im Cf (λ q hq=>by rw[<-eb];exact my q (List.mem_of_mem_take hq)) Fg w6.rel i' cs m4 j c hj;refine ⟨u,?_,y9⟩;rw[Kk _ _ _ _ _ (by have:=(zS bq).1;simpa using this)];exact bq)
  refine IZ (P4 j8 (by rw[u6,ka];exact m6)) (hK _ ⟨g9 m s' (some m.w.heap.size),m.own.put s' (((m.own s').m7 t none).new ⟨a6,b.es.take len++ys⟩),_⟩ rfl k1 k2 (lQ h0 s9 gd ?_));have lz:(Builtin.zeroCells z.cells (gc-(len+ys.length))).size=(gc-(len+ys.length))*a6:=by simp [Builtin.zeroCells,bk]
  rw[Array.size_append,lz];simp only[List.size_toArray,List.length_append,Cf,nf];rw[<-Nat.add_mul,<-Nat.add_mul];exact Nat.mul_le_mul_right _ (by omega)
theorem wC (hm:BI B S w0 m) (hs:CD B S m ρ a.eval) {s a6 bytes:Nat} {x' y':AM} (h:A2 P num o.op (.app s a6 bytes x' y')=true) {ys:List (List AV)} (hy:DT m.own (ρ y')=some ys) (hz : ∀ e∈ys,e.length=a6) (hx:ρ x' = .nil)
  (ax:ys.length*bytes<=EA) (ug:ys.length<=9223372036854775807) :
  CF B S w0 P o a m (.z0 (.row s (m.own.g7 s) a6 0 ys.length) (m.own.put s ((m.own s).new ⟨a6,ys⟩))):=by
 obtain ⟨x,y,ty,e,i,z,tx,ex,j8,h1,h2,hu,hi,o9,gm,ay,bk,k8,qm⟩:=kN h;have h0:0<a6:=Nat.pos_of_ne_zero k8;have u6:=NJ (hx ▸ hs x x' h1);obtain ⟨gk,w5,news,ka,w6⟩:=SJ hm (hs y y' h2) hy hz h0;have il:Src P i.size tx (.slice gk ys.length w5) ys.length news m.w:=by rw[o9];exact w6.src h0 hz qm w5
 intro K Q hK;by_cases mq:ys=[]
 ·subst mq
  have te:news=[]:=List.eq_nil_of_length_eq_zero (by simpa using w6.len);subst te;have m6:=nE ty tx e ex i hu qm hi none 0 (.slice gk 0 w5) m.w (by simpa using il) o.type;obtain ⟨k1,k2⟩:=pC hm s a6;refine IZ (P4 j8 (by rw[u6,ka];simpa using m6)) (hK _ ⟨g9 m s none,m.own.put s ((m.own s).new ⟨a6,[]⟩),m.w⟩ rfl k1 k2 (.ca (.one (.row s (m.own.g7 s) a6 0 0 none 0 ?_ h0 (Nat.le_refl _) (λ h=>by omega) λ b' k6=>⟨?_,.inl ⟨rfl,rfl⟩⟩))))
  ·show _<AH.g7 _ s
   rw[JL];simp
  ·change AH.get _ s _=some b' at k6
   rw[FL,if_pos ⟨rfl,rfl⟩]at k6;obtain rfl:(⟨a6,[]⟩:DJ)=b':=by simpa using k6
   rfl
 ·have Ag:0<ys.length:=List.length_pos_iff.2 mq
  have m6:=run_append_grow_src (P:=P) m.w ty tx o.type e i z hu hi ay none 0 0 [] (run_firstCells_none m.w.drew i.size 0 0 0) (.slice gk ys.length w5) ys.length news il (by omega) (by omega) (growslice_fits (by omega) (by rw[gm,Nat.zero_add];exact ax));simp only[Nat.zero_add,List.nil_append]at m6;have nf:news.length=ys.length*a6:=w6.len;have s9:ys.length<=grownCap m.w ys.length 0 e:=grownCap_ge _ _ _ _;generalize wz:grownCap m.w ys.length 0 e=gc at m6 s9;have hd:Below m.w.heap.size m.w m.w.drew:=(Below.refl _ _).drew;obtain ⟨eh,qi⟩:=grow hm hd;obtain ⟨k1,k2⟩:=R2 eh s ⟨a6,ys⟩ (news.toArray++Builtin.zeroCells z.cells (gc-ys.length)) e hz (λ i' cs m4 j c hj=>by
   obtain ⟨u,bq,y9⟩:=w6.rel i' cs m4 j c hj;refine ⟨u,?_,qi.cc y9⟩;have er:=(zS bq).1;show (news.toArray++Builtin.zeroCells z.cells (gc-ys.length))[i'*a6+j]? = some u;rw[Array.getElem?_append_left (by simpa using er)];simpa using bq)
  have lz:(Builtin.zeroCells z.cells (gc-ys.length)).size=(gc-ys.length)*a6:=by simp [Builtin.zeroCells,bk]
  refine IZ (P4 j8 (by rw[u6,ka];exact m6)) (hK _ ⟨g9 ⟨m.ν,m.own,m.w.drew⟩ s (some m.w.drew.heap.size),m.own.put s ((m.own s).new ⟨a6,ys⟩),_⟩ rfl k1 (qi.trans k2) (VV (m:=⟨m.ν,m.own,m.w.drew⟩) h0 s9 (heap_alloc_new m.w.drew _) ?_));rw[Array.size_append,lz];simp only[List.size_toArray,nf];rw[<-Nat.add_mul];exact Nat.mul_le_mul_right _ (by omega)
theorem wB (hm:BI B S w0 m) (hs:CD B S m ρ a.eval) {s a6 bytes:Nat} {x' y':AM} (h:A2 P num o.op (.jm s a6 bytes x' y')=true) {ys:List (List AV)} (hy:DT m.own (ρ y')=some ys) (hz : ∀ e∈ys,e.length=a6) (hx:ρ x' = .nil)
  (Ag:0<ys.length) (ax:ys.length*bytes<=EA) (ug:ys.length<=9223372036854775807) :
  CF B S w0 P o a m (.new s ⟨a6,ys⟩ (λ t => .row s t a6 0 ys.length)):=by
 obtain ⟨x,y,ty,e,i,z,tx,ex,j8,h1,h2,hu,hi,o9,gm,ay,bk,k8,qm⟩:=Oa h;have h0:0<a6:=Nat.pos_of_ne_zero k8;have u6:=NJ (hx ▸ hs x x' h1);obtain ⟨gk,w5,news,ka,w6⟩:=SJ hm (hs y y' h2) hy hz h0;have il:Src P i.size tx (.slice gk ys.length w5) ys.length news m.w:=by rw[o9];exact w6.src h0 hz qm w5
 intro K Q hK;have m6:=run_append_grow_src (P:=P) m.w ty tx o.type e i z hu hi ay none 0 0 [] (run_firstCells_none m.w.drew i.size 0 0 0) (.slice gk ys.length w5) ys.length news il (by omega) (by omega) (growslice_fits (by omega) (by rw[gm,Nat.zero_add];exact ax));simp only[Nat.zero_add,List.nil_append]at m6;have nf:news.length=ys.length*a6:=w6.len;have s9:ys.length<=grownCap m.w ys.length 0 e:=grownCap_ge _ _ _ _;generalize wz:grownCap m.w ys.length 0 e=gc at m6 s9;have hd:Below m.w.heap.size m.w m.w.drew:=(Below.refl _ _).drew;obtain ⟨eh,qi⟩:=grow hm hd;obtain ⟨k1,k2⟩:=R2 eh s ⟨a6,ys⟩ (news.toArray++Builtin.zeroCells z.cells (gc-ys.length)) e hz (λ i' cs m4 j c hj=>by
  obtain ⟨u,bq,y9⟩:=w6.rel i' cs m4 j c hj;refine ⟨u,?_,qi.cc y9⟩;have er:=(zS bq).1;show (news.toArray++Builtin.zeroCells z.cells (gc-ys.length))[i'*a6+j]? = some u;rw[Array.getElem?_append_left (by simpa using er)];simpa using bq)
 have lz:(Builtin.zeroCells z.cells (gc-ys.length)).size=(gc-ys.length)*a6:=by simp [Builtin.zeroCells,bk]
 refine IZ (P4 j8 (by rw[u6,ka];exact m6)) (hK _ ⟨g9 ⟨m.ν,m.own,m.w.drew⟩ s (some m.w.drew.heap.size),m.own.put s ((m.own s).new ⟨a6,ys⟩),_⟩ rfl k1 (qi.trans k2) (VV (m:=⟨m.ν,m.own,m.w.drew⟩) h0 s9 (heap_alloc_new m.w.drew _) ?_));rw[Array.size_append,lz];simp only[List.size_toArray,nf];rw[<-Nat.add_mul];exact Nat.mul_le_mul_right _ (by omega)
theorem Pv (w:World) (t tx ty e:TypeId) (i:TypeInfo) (z:Value) (ht:P.underlying t=some (.slice e)) {k:IntKind} (hk:P.underlying tx=some (.int k)) (hi:P.info? e=some i) (hz:i.zero=some z) (k':IntKind) (n:Nat)
  (hn:0<n) (ug:(n:Int)<=9223372036854775807) (Hb:n*i.bytes<=EA) (k8:i.size≠0) :
  (Builtin.append_ #[t,tx] ty #[.slice none 0 0,.int k' n]).run P w =
   .ok (.slice (some ⟨w.heap.size,0,none⟩) n (grownCap w n 0 e))
    (w.drew.alloc (.cells (Builtin.zeroCells z.cells n++Builtin.zeroCells z.cells (grownCap w n 0 e-n)) e)):=by
 have ot:=growslice_fits (old:=0) (need:=n) (bytes:=i.bytes) hn Hb;have h1 : ¬ (n:Int)<0:=by omega
 have h2 : ¬ n=0:=by omega
 have h3 : ¬ (9223372036854775807<(n:Int)):=by omega
 have h5 : ¬ (281474976710656<Builtin.nextslicecap n 0*i.bytes):=by omega
 have h6 : ¬ ((281474976710656:Int)<(n:Int)*(i.bytes:Int)):=by
  have De:n*i.bytes<=140737488355328:=Hb;have h7:=Int.ofNat_le.2 De;rw[Int.natCast_mul]at h7;omega
 have hA : ∀ w':World,(asIntOf (.int k' n)).run P w' = .ok (k',(n:Int)) w':=λ w'=>rfl
 have e1:IntKind.i64.wrap (n:Int)=n:=by rw[IntKind.wrap_i64];omega
 generalize hw:IntKind.i64.wrap (n:Int)=q at e1;subst e1;simp [Builtin.append_,run_underlying ht,run_underlying hk,sizeOf,typeInfo,zeroValue,hi,hz,asInt,hA,hw,h1,h2,h3,h5,h6,k8,Question.forced,Builtin.firstCells,newRow,grownCap];intro h;rcases Nat.mul_eq_zero.1 h with h|h
 ·exact absurd h h2
 ·exact absurd h k8
theorem wD (hm:BI B S w0 m) (hs:CD B S m ρ a.eval) {s a6 bytes:Nat} {x' y':AM} (h:A2 P num o.op (.jn s a6 bytes x' y')=true) (hx:ρ x' = .nil) {k':IntKind} {n:Int} (hy:ρ y' = .int k' n)
  (hn:0<n) (ax:n*bytes<=EA) (ug:n<=9223372036854775807) :
  CF B S w0 P o a m (.new s ⟨a6,[]⟩ (λ t => .row s t a6 0 n.toNat)):=by
 obtain ⟨x,y,ty,e,i,z,tx,k,j8,h1,h2,hu,hi,o9,gm,ay,bk,k8,qm⟩:=Oc h;have h0:0<a6:=Nat.pos_of_ne_zero k8;have u6:=NJ (hx ▸ hs x x' h1);have Ur:=GC (hy ▸ hs y y' h2);obtain ⟨q,rfl⟩ : ∃ q:Nat,n=q:=⟨n.toNat,by omega⟩;simp only[Int.toNat_natCast];intro K Q hK;have m6:=Pv (P:=P) m.w ty tx o.type e i z hu qm hi ay k' q (by omega) ug (by
  rw[gm];rw[<-Int.natCast_mul]at ax;exact Int.ofNat_le.1 ax) (by rw[o9];exact k8)
 have s9:q<=grownCap m.w q 0 e:=grownCap_ge _ _ _ _;generalize wz:grownCap m.w q 0 e=gc at m6 s9;have hd:Below m.w.heap.size m.w m.w.drew:=(Below.refl _ _).drew;obtain ⟨eh,qi⟩:=grow hm hd;obtain ⟨k1,k2⟩:=R2 eh s ⟨a6,[]⟩ (Builtin.zeroCells z.cells q++Builtin.zeroCells z.cells (gc-q)) e (by simp) (λ i' cs m4 j c hj=>by simp at m4);have lz : ∀ n,(Builtin.zeroCells z.cells n).size=n*a6:=λ n=>by simp [Builtin.zeroCells,bk]
 refine IZ (P4 j8 (by rw[u6,Ur];exact m6)) (hK _ ⟨g9 ⟨m.ν,m.own,m.w.drew⟩ s (some m.w.drew.heap.size),m.own.put s ((m.own s).new ⟨a6,[]⟩),_⟩ rfl k1 (qi.trans k2) (VV (m:=⟨m.ν,m.own,m.w.drew⟩) h0 s9 (heap_alloc_new m.w.drew _) ?_));rw[Array.size_append,lz,lz,<-Nat.add_mul];exact Nat.mul_le_mul_right _ (by omega)
end
end Go.c4

namespace Go.c4
open Go.RowKit
section
variable {B:Nat} {S:Nat->Prop} {w0:World} {m:M}
variable {P:Program} {num:Nat->Nat} {o:Oper} {a:Act} {ρ:AM->AV}
theorem Rh (ow:AH) (s t:Nat) (b:DJ) (h:ow.get s t=some b):ow.put s ((ow s).m7 t (some b))=ow:=by
 funext s'
 unfold AH.put BX.m7;by_cases hs:s'=s
 ·subst hs
  rw[if_pos rfl];unfold AH.get at h;cases hx:ow s' with
  | mk c f =>
   rw[hx]at h;simp only at h;congr;funext t'
   by_cases ht:t'=t
   ·subst ht;simp [h]
   ·simp [ht]
 ·simp [hs]
theorem nF (ty e:TypeId) (i:TypeInfo) (hu:P.underlying ty=some (.slice e)) (hi:P.info? e=some i) (ad:Option Addr) (ue Dd:Nat) (gk:Option Addr) (yl yc:Nat) (cs:List Value) (w w':World) (rt:TypeId)
  (hf:(Builtin.firstCells i.size (Nat.min yl ue) (.slice gk yl yc)).run P w = .ok cs.toArray w) (j9 : ∀ b,ad=some b->(storeCells b cs).run P w = .ok () w') (hn:ad=none->w'=w) :
  (Builtin.copy_ #[ty,ty] rt #[.slice ad ue Dd,.slice gk yl yc]).run P w = .ok (goInt (Nat.min yl ue)) w':=by
 cases ad with
 | none=>rw[hn rfl];simp [Builtin.copy_,run_underlying hu,sizeOf,typeInfo,hi,Builtin.lenOf,hf]
 | some b=>simp [Builtin.copy_,run_underlying hu,sizeOf,typeInfo,hi,Builtin.lenOf,hf,j9 b rfl]
theorem wR (hm:BI B S w0 m) (hs:CD B S m ρ a.eval) {a6:Nat} {x' y':AM} (h:A2 P num o.op (.jq a6 x' y')=true) {ys:List (List AV)} (hy:DT m.own (ρ y')=some ys) (hz : ∀ e∈ys,e.length=a6) {s t off len:Nat} {b:DJ} (hx:ρ x' = .row s t a6 off len) (l7:m.own.get s t=some b)
  (eb:b.a6=a6) (hle:off+len<=b.es.length) :
  CF B S w0 P o a m (.z0 (.int .i64 (min ys.length len:Nat)) (m.own.put s ((m.own s).m7 t (some ⟨a6,b.es.take off++ys.take len++b.es.drop (off+min ys.length len)⟩)))):=by
 obtain ⟨x,y,ty,e,i,j8,h1,h2,hu,hi,o9,k8⟩:=Ot h;have h0:0<a6:=Nat.pos_of_ne_zero k8;obtain ⟨ad,cap,u6,ht,_,de,ha,hb⟩:=PI (hx ▸ hs x x' h1);obtain ⟨gk,w5,news,ka,w6⟩:=SJ hm (hs y y' h2) hy hz h0;obtain ⟨my,y7⟩:=hm.e8 s t b l7;obtain ⟨_,au⟩:=hb b l7;have nf:news.length=ys.length*a6:=w6.len;have Ve:min ys.length len*a6<=news.length:=by rw[nf];exact Nat.mul_le_mul_right _ (Nat.min_le_left _ _)
 have oi:(news.take (min ys.length len*a6)).length=min ys.length len*a6:=by simp;omega
 have hf:(Builtin.firstCells i.size (Nat.min ys.length len) (.slice gk ys.length w5)).run P m.w = .ok (news.take (min ys.length len*a6)).toArray m.w:=by
  cases Ba:gk with
  | none =>
   have mq:ys=[]:=by
    cases ys with
    | nil=>rfl
    | cons q r=>exact absurd (w6.some_ (by simp)) (by simp [Ba])
   subst mq;simp only[List.length_nil,Nat.zero_min,Nat.zero_mul,List.take_zero];have:=run_firstCells_none (P:=P) m.w i.size 0 0 w5
   simpa using this
  | some yb =>
   refine run_firstCells_some m.w i.size _ yb ys.length w5 _ (by rw[oi,o9]) (λ j v hv => ?_);rw[List.getElem?_take]at hv;split at hv
   ·exact w6.cells yb Ba j v hv
   ·cases hv
 intro K Q hK;by_cases hk:min ys.length len=0
 ·have cj:news.take (min ys.length len*a6)=[]:=by rw[hk];simp
  have j6:m.own.put s ((m.own s).m7 t (some ⟨a6,b.es.take off++ys.take len++b.es.drop (off+min ys.length len)⟩))=m.own:=by
   have px:ys.take len=[]:=by
    apply List.eq_nil_of_length_eq_zero;rw[List.length_take];omega
   rw[hk,px];have:b=⟨a6,b.es.take off++[]++b.es.drop (off+0)⟩:=by
    cases b with
    | mk z es=>simp at eb;subst eb;simp
   rw[<-this];exact Rh _ _ _ _ l7
  have m6:=nF ty e i hu hi ad len cap gk ys.length w5 _ m.w m.w o.type hf (λ b' _=>by rw[cj];rfl) (λ_=>rfl);refine IZ (nH j8 (by rw[u6,ka];exact m6)) (hK _ m j6.symm hm (C7.refl m) (JY _ _))
 ·rcases au with ⟨nc,cj⟩|⟨g,arr,e',hg,fc,hh,zk⟩
  ·omega
  ·rw[hg]at y7
   obtain ⟨hB,jo,e2,oy,q9⟩:=y7;rw[hh]at oy;obtain ⟨rfl,rfl⟩:arr=jo/\e'=e2:=by simpa using oy
   have hbound:off*a6+(news.take (min ys.length len*a6)).length<=arr.size:=by
    rw[oi,<-Nat.add_mul];exact Nat.le_trans (Nat.mul_le_mul_right _ (by omega)) zk
   have cp : ∀ u∈news.take (min ys.length len*a6),u.oneCell'=true:=λ u bq=>w6.one h0 hz u (List.mem_of_mem_take bq)
   have j9:=run_storeCells_at (P:=P) g (off*a6) e' (news.take (min ys.length len*a6)) 0 arr m.w hh (by omega) cp;simp only[Nat.add_zero]at j9;generalize cu:(arr.toList.take (off*a6)++news.take (min ys.length len*a6)++arr.toList.drop (off*a6+(news.take (min ys.length len*a6)).length)).toArray=n8 at j9;have ag : ∀ p,n8[p]? = if p<off*a6 then arr[p]? else if p<off*a6+min ys.length len*a6 then (news.take (min ys.length len*a6))[p-off*a6]? else arr[p]? := λ p=>by
    rw[<-cu,lZ arr (off*a6) _ hbound p,oi]
   have ep:n8.size=arr.size:=by rw[<-cu];simp;omega
   obtain ⟨k1,k2⟩:=oY hm s t b ⟨a6,b.es.take off++ys.take len++b.es.drop (off+min ys.length len)⟩ l7 g hg arr n8 e' hh eb.symm (λ q hq=>by
     rcases List.mem_append.1 hq with hq|hq
     ·rcases List.mem_append.1 hq with hq|hq
      ·rw[<-eb];exact my q (List.mem_of_mem_take hq)
      ·exact hz q (List.mem_of_mem_take hq)
     ·rw[<-eb];exact my q (List.mem_of_mem_drop hq)) ep
    (λ i' cs m4 j c hj=>by
     show ∃ u,n8[i'*a6+j]? = some u/\_;have xx:(ys.take len).length=min ys.length len:=by simp;omega
     change (b.es.take off++ys.take len++b.es.drop (off+min ys.length len))[i']? = some cs at m4;have Gc:=xx;rw[<-Gc,WL _ _ _ (by rw[xx];omega),xx]at m4;by_cases xh:i'<off
     ·rw[if_pos xh]at m4
      have bp:j<a6:=by rw[<-eb,<-my cs (zM m4)];exact (zS hj).1
      obtain ⟨u,bq,y9⟩:=q9 i' cs m4 j c hj;have:(i'+1)*a6<=off*a6:=Nat.mul_le_mul_right _ xh
      rw[Nat.succ_mul]at this;exact ⟨u,by rw[ag,if_pos (by omega),<-bq,eb],y9⟩
     ·rw[if_neg xh]at m4
      have e1:i'*a6=off*a6+(i'-off)*a6:=by rw[<-Nat.add_mul];congr 1;omega
      by_cases gn:i'<off+min ys.length len
      ·rw[if_pos gn,List.getElem?_take,if_pos (by omega)]at m4
       have bp:j<a6:=by rw[<-hz cs (zM m4)];exact (zS hj).1
       obtain ⟨u,bq,y9⟩:=w6.rel (i'-off) cs m4 j c hj;have h3:(i'-off+1)*a6<=min ys.length len*a6:=Nat.mul_le_mul_right _ (by omega);rw[Nat.succ_mul]at h3;refine ⟨u,?_,y9⟩;rw[ag,if_neg (by omega),if_pos (by omega),List.getElem?_take,if_pos (by omega),<-bq];congr 1;omega
      ·rw[if_neg gn]at m4
       obtain ⟨u,bq,y9⟩:=q9 i' cs m4 j c hj;have h3:(off+min ys.length len)*a6<=i'*a6:=Nat.mul_le_mul_right _ (by omega);rw[Nat.add_mul]at h3;exact ⟨u,by rw[ag,if_neg (by omega),if_neg (by omega),<-bq,eb],y9⟩)
    (m.w.setRow g n8) (XG hm hB n8) (by simp) (λ k hk=>setRow_other _ _ _ _ hk) (setRow_heap _ _ _ _ _ _ hh)
   have m6:=nF ty e i hu hi ad len cap gk ys.length w5 _ m.w (m.w.setRow g n8) o.type hf (λ b' k6=>by
    rw[fc]at k6;obtain rfl:(⟨g,off*a6,none⟩:Addr)=b':=by simpa using k6
    exact j9) (λ hn=>by rw[fc]at hn;cases hn)
   exact IZ (nH j8 (by rw[u6,ka];exact m6)) (hK _ ⟨m.ν,_,m.w.setRow g n8⟩ rfl k1 k2 (JY _ _))
structure G0 (P:Program) (num:Nat->Nat) (C:Cl):Prop where
 nz : ∀ (f:Nat) (vs:List AV) (r:AV),C.pure f vs=some r -> ∀ (us:Array Value) (w:World),(callFunc (num f) us).run P w = .ok (.enter (num f) us) w
 js : ∀ (f:Nat) (vs:List AV) (own:AH) (r:AV × AH),C.dh f vs own=some r -> ∀ (us:Array Value) (w:World),(callFunc (num f) us).run P w = .ok (.enter (num f) us) w
 pure : ∀ (f:Nat) (vs:List AV) (r:AV),C.pure f vs=some r -> ∀ (S:Nat->Prop) (w:World) (us:List Value),vs.length=us.length->(∀ (j:Nat) (c:AV) (v:Value),vs[j]? = some c->us[j]? = some v->CA w.heap.size S ⟨λ_ _=>none,AH.emp,w⟩ c v) ->
  Calls P (num f) us.toArray w λ e w' => ∃ u,e = .returned u/\Below w.heap.size w w'/\CV w.heap.size S ⟨λ_ _=>none,AH.emp,w'⟩ r u/\A1 r
 dh : ∀ (f:Nat) (vs:List AV) (own:AH) (r:AV) (l8:AH),C.dh f vs own=some (r,l8) -> ∀ (B:Nat) (S:Nat->Prop) (w0:World) (m:M) (us:List Value),m.own=own->BI B S w0 m->vs.length=us.length->(∀ (j:Nat) (c:AV) (v:Value),vs[j]? = some c->us[j]? = some v->CV B S m c v) ->
  Calls P (num f) us.toArray m.w λ e w' => ∃ u m',e = .returned u/\m'.w=w'/\m'.own=l8/\BI B S w0 m'/\C7 B S m m'/\CV B S m' r u
 num:C.num=num
end
end Go.c4

namespace Go.c4
open Go.RowKit
theorem NR {α β:Type} (f:α->Option β) : ∀ {l:List α} {l':List β},l.mapM f=some l'->l.length=l'.length /\ ∀ (i:Nat) (x:α),l[i]? = some x -> ∃ y,l'[i]? = some y/\f x=some y
 | [],l',h=>by
  simp at h;subst h;exact ⟨rfl,λ i x hx=>by simp at hx⟩
 | x::r,l',h=>by
  simp only[List.mapM_cons,Option.bind_eq_bind,Option.pure_def]at h;cases hx:f x with
  | none=>simp [hx]at h
  | some y =>
   cases hr:r.mapM f with
   | none=>simp [hx,hr]at h
   | some r' =>
    simp [hx,hr]at h;subst h;obtain ⟨h1,h2⟩:=NR f hr;refine ⟨by simp [h1],λ i z hz => ?_⟩;cases i with
    | zero=>simp at hz;subst hz;exact ⟨y,rfl,hx⟩
    | succ i=>exact h2 i z (by simpa using hz)
section
variable {B:Nat} {S:Nat->Prop} {w0:World} {m:M}
variable {P:Program} {num:Nat->Nat} {o:Oper} {a:Act} {ρ:AM->AV}
theorem oD (hm:BI B S w0 m) (l0:Bool) (R:Bool->Nat->Prop) (hR : ∀ l b,b<m.w.heap.size->safe B S m l b->R l b) (hL : ∀ s t g,live m s t->m.ν s t=some g->R l0 g) :
  ∀ (d:Nat) (c c':AV) (v:Value),snap m.own l0 d c=some c'->CC B S m c v->Rd m.w R c' v:=by
 intro d;induction d with
 | zero =>
  intro c c' v h hc;cases hc with
  | rd hr =>
   have:c'=c:=by cases hr<;>simp [snap]at h<;>exact h.symm
   subst this;exact hr.mono hR (λ_ _ _ _=>rfl)
  | nil=>simp [snap]at h;subst h;exact .ew _ _ _
  | _=>simp [snap]at h
 | succ d ih =>
  intro c c' v h hc;cases hc with
  | rd hr =>
   have:c'=c:=by cases hr<;>simp [snap]at h<;>exact h.symm
   subst this;exact hr.mono hR (λ_ _ _ _=>rfl)
  | nil=>simp [snap]at h;subst h;exact .ew _ _ _
  | ptr=>simp [snap]at h
  | o8=>simp [snap]at h
  | row s t z off len ad cap ht ay de ha hb =>
   simp only[snap]at h;cases w6:DT m.own (.row s t z off len) with
   | none=>simp [w6]at h
   | some es =>
    simp only[w6]at h;cases eg:es.mapM (λ cs:List AV=>cs.mapM (snap m.own l0 d)) with
    | none=>simp [eg]at h
    | some es' =>
     simp [eg]at h;subst h;have Ge:(∀ e∈es,e.length=z)/\es.length=len /\ ∃ b,m.own.get s t=some b:=by
      simp only[DT]at w6;cases l7:m.own.get s t with
      | none=>simp [l7]at w6
      | some b =>
       simp only[l7]at w6;split at w6
       ·rename_i hle
        obtain rfl:=Option.some.inj w6;refine ⟨λ e he => ?_,by simp;omega,b,rfl⟩;rw[<-hle.2];exact (hm.e8 s t b l7).1 e (List.mem_of_mem_drop (List.mem_of_mem_take he))
       ·cases w6
     obtain ⟨hz,hlen,b,l7⟩:=Ge;have q6:CV B S m (.row s t z off len) (.slice ad len cap):= .ca (.one (.row s t z off len ad cap ht ay de ha hb));obtain ⟨Sz,Dc,news,Cm,hE⟩:=SJ hm q6 w6 hz ay;obtain ⟨rfl,_,rfl⟩:ad=Sz/\len=es.length/\cap=Dc:=by simpa using Cm
     obtain ⟨ft,ox⟩:=NR _ eg;by_cases h0:es=[]
     ·subst h0
      have:es'=[]:=List.eq_nil_of_length_eq_zero (by rw[<-ft];rfl)
      subst this;have:len=0:=by rw[<-hlen];rfl
      subst this;exact .ew _ _ _
     ·obtain ⟨_,au⟩:=hb b l7
      rcases au with ⟨Vg,_⟩|⟨g,arr,e',hg,fc,hh,zk⟩
      ·exact absurd (List.eq_nil_of_length_eq_zero (by omega)) h0
      ·rw[fc,<-hlen,ft]
       refine .sl l0 es' g (off*z) z cap (λ i j=>news.getD (i*z+j) undef) (λ e=>h0 (List.eq_nil_of_length_eq_zero (by rw[ft,e];rfl))) ay (hL s t g ⟨b,l7⟩ hg) (by omega) (λ e' ef => ?_) (λ i e hi j c hj => ?_) (λ i e hi j c hj => ?_)
       ·obtain ⟨i,hi,rfl⟩:=List.getElem_of_mem ef
        have m4:i<es.length:=by omega
        obtain ⟨y,hy,cw⟩:=ox i es[i] (zE m4);have:es'[i]=y:=by
         have:=(zS hy).2;exact this
        rw[this,<-(NR _ cw).1];exact hz _ (List.getElem_mem m4)
       ·have m4:i<es.length:=by rw[ft];exact (zS hi).1
        obtain ⟨y,hy,cw⟩:=ox i es[i] (zE m4);rw[hi]at hy;obtain rfl:e=y:=by simpa using hy
        obtain ⟨ff,_⟩:=NR _ cw;have xi:j<(es[i]).length:=by rw[ff];exact (zS hj).1
        obtain ⟨u,hu,y9⟩:=hE.rel i es[i] (zE m4) j _ (zE xi);have:=hE.cells _ fc (i*z+j) u hu
        rw[GO]at this;simp only[List.getD,hu,Option.getD_some];exact this
       ·have m4:i<es.length:=by rw[ft];exact (zS hi).1
        obtain ⟨y,hy,cw⟩:=ox i es[i] (zE m4);rw[hi]at hy;obtain rfl:e=y:=by simpa using hy
        obtain ⟨ff,fr⟩:=NR _ cw;have xi:j<(es[i]).length:=by rw[ff];exact (zS hj).1
        obtain ⟨u,hu,y9⟩:=hE.rel i es[i] (zE m4) j _ (zE xi);obtain ⟨c2,qh,mn⟩:=fr j _ (zE xi);rw[hj]at qh;obtain rfl:c=c2:=by simpa using qh
        simp only[List.getD,hu,Option.getD_some];exact ih _ _ _ mn y9
def DA (w:World) (R:Bool->Nat->Prop) (c:AV) (v:Value):Prop :=
 Rd w R c v \/ ∃ (cs:List AV) (vs:List Value),c = .agg cs/\v = .agg vs.toArray/\cs.length=vs.length /\ ∀ (j:Nat) (x:AV) (u:Value),cs[j]? = some x->vs[j]? = some u->Rd w R x u
theorem WK (hm:BI B S w0 m) (l0:Bool) (R:Bool->Nat->Prop) (hR : ∀ l b,b<m.w.heap.size->safe B S m l b->R l b) (hL : ∀ s t g,live m s t->m.ν s t=some g->R l0 g)
  {c c':AV} {v:Value} (h:DB m.own l0 c=some c') (hc:CV B S m c v):DA m.w R c' v:=by
 cases hc with
 | any v=>simp [DB,snap]at h
 | j5=>simp [DB,snap]at h
 | ca hc=>cases hc with
  | one hc =>
   have h':snap m.own l0 6 c=some c':=by
    cases hc with
    | rd hr=>cases hr<;>simpa [DB] using h
    | _=>simpa [DB] using h
   exact Or.inl (oD hm l0 R hR hL 6 c c' v h' hc)
  | fn=>simp [DB,snap]at h
  | agg cs vs n6 =>
   simp only[DB]at h;cases fq:cs.mapM (snap m.own l0 6) with
   | none=>simp [fq]at h
   | some bm =>
    simp [fq]at h;subst h;obtain ⟨h1,h2⟩:=NR _ fq;refine Or.inr ⟨bm,vs,rfl,rfl,h1.symm.trans n6.1,λ j x u hx hu => ?_⟩;have hj:j<cs.length:=by rw[h1];exact (zS hx).1
    obtain ⟨y,hy,cw⟩:=h2 j cs[j] (zE hj);rw[hx]at hy;obtain rfl:x=y:=by simpa using hy
    exact oD hm l0 R hR hL 6 _ _ _ cw (n6.2 j cs[j] u (zE hj) hu)
def DV (w:World) (R:Bool->Nat->Prop) (c:AV) (v:Value):Prop :=
 DA w R c v \/ ∃ (cs:List AV) (vs:List Value),c = .j5 cs/\v = .tuple vs.toArray/\cs.length=vs.length /\ ∀ (j:Nat) (x:AV) (u:Value),cs[j]? = some x->vs[j]? = some u->DA w R x u
theorem Se (hm:BI B S w0 m) (l0:Bool) (R:Bool->Nat->Prop) (hR : ∀ l b,b<m.w.heap.size->safe B S m l b->R l b) (hL : ∀ s t g,live m s t->m.ν s t=some g->R l0 g)
  {c c':AV} {v:Value} (h:OX m.own l0 c=some c') (hc:CV B S m c v):DV m.w R c' v:=by
 by_cases ht : ∃ cs,c = .j5 cs
 ·obtain ⟨cs,rfl⟩:=ht
  obtain ⟨vs,rfl,hl,q9⟩:=XX hc;simp only[OX]at h;cases fq:cs.mapM (DB m.own l0) with
  | none=>simp [fq]at h
  | some bm =>
   simp [fq]at h;subst h;obtain ⟨h1,h2⟩:=NR _ fq;refine Or.inr ⟨bm,vs,rfl,rfl,h1.symm.trans hl,λ j x u hx hu => ?_⟩;have hj:j<cs.length:=by rw[h1];exact (zS hx).1
   obtain ⟨y,hy,cw⟩:=h2 j cs[j] (zE hj);rw[hx]at hy;obtain rfl:x=y:=by simpa using hy
   exact WK hm l0 R hR hL cw (.ca (q9 j cs[j] u (zE hj) hu))
 ·have h':DB m.own l0 c=some c':=by
   cases c<;>first|exact h|exact absurd ⟨_,rfl⟩ ht
  exact Or.inl (WK hm l0 R hR hL h' hc)
theorem DA.ca {B:Nat} {S:Nat->Prop} {m:M} {c:AV} {v:Value} (h:DA m.w (safe B S m) c v):CA B S m c v:=by
 rcases h with h|⟨cs,vs,rfl,rfl,hl,hh⟩
 ·exact .one (.rd h)
 ·exact .agg cs vs ⟨hl,λ j x u hx hu => .rd (hh j x u hx hu)⟩
theorem DV.cv {B:Nat} {S:Nat->Prop} {m:M} {c:AV} {v:Value} (h:DV m.w (safe B S m) c v):CV B S m c v:=by
 rcases h with h|⟨cs,vs,rfl,rfl,hl,hh⟩
 ·exact .ca h.ca
 ·exact .j5 cs vs hl λ j x u hx hu=>(hh j x u hx hu).ca
theorem MS : ∀ {cs:List AV},CQ cs -> ∀ (j:Nat) (c:AV),cs[j]? = some c->A1 c
 | [],_,j,c,h=>by simp at h
 | x::r,hc,j,c,h=>by
  unfold CQ at hc;cases j with
  | zero=>simp at h;subst h;exact hc.1
  | succ j=>exact MS hc.2 j c (by simpa using h)
theorem UZ : ∀ {cs:List (List AV)},FM cs -> ∀ (j:Nat) (c:List AV),cs[j]? = some c->CQ c
 | [],_,j,c,h=>by simp at h
 | x::r,hc,j,c,h=>by
  unfold FM at hc;cases j with
  | zero=>simp at h;subst h;exact hc.1
  | succ j=>exact UZ hc.2 j c (by simpa using h)
theorem Rd.clean {w:World} {R R':Bool->Nat->Prop} (hR : ∀ b,b<w.heap.size->R false b->R' false b) {c:AV} {v:Value} (h:Rd w R c v) (hc:A1 c):Rd w R' c v:=by
 induction h with
 | int k n=>exact .int k n
 | bool b=>exact .bool b
 | str s=>exact .str s
 | ew l a cap=>exact .ew l a cap
 | emp b a cap h=>exact .emp b a cap h
 | sl l es b o a6 cap u k8 hp h1 s9 hz n6 hr ih =>
  unfold A1 at hc;obtain ⟨rfl,hc⟩:=hc;obtain ⟨e,c,he,cj⟩:=SV k8 hp hz;have hb:b<w.heap.size:=PE (n6 0 e he 0 c cj);exact .sl false es b o a6 cap u k8 hp (hR b hb h1) s9 hz n6 λ i e he j c hj=>ih i e he j c hj (MS (UZ hc i e he) j c hj)
theorem DA.clean {w:World} {R R':Bool->Nat->Prop} (hR : ∀ b,b<w.heap.size->R false b->R' false b) {c:AV} {v:Value} (h:DA w R c v) (hc:A1 c):DA w R' c v:=by
 rcases h with h|⟨cs,vs,rfl,rfl,hl,hh⟩
 ·exact Or.inl (h.clean hR hc)
 ·unfold A1 at hc
  exact Or.inr ⟨cs,vs,rfl,rfl,hl,λ j x u hx hu=>(hh j x u hx hu).clean hR (MS hc j x hx)⟩
theorem DV.clean {w:World} {R R':Bool->Nat->Prop} (hR : ∀ b,b<w.heap.size->R false b->R' false b) {c:AV} {v:Value} (h:DV w R c v) (hc:A1 c):DV w R' c v:=by
 rcases h with h|⟨cs,vs,rfl,rfl,hl,hh⟩
 ·exact Or.inl (h.clean hR hc)
 ·unfold A1 at hc
  exact Or.inr ⟨cs,vs,rfl,rfl,hl,λ j x u hx hu=>(hh j x u hx hu).clean hR (MS hc j x hx)⟩
theorem XW {B:Nat} {S:Nat->Prop} {m:M} {c:AV} {v:Value} (h:CV B S m c v) (hc:A1 c):DV m.w (safe B S m) c v:=by
 have one : ∀ {c:AV} {v:Value},CC B S m c v->A1 c->Rd m.w (safe B S m) c v:=λ h hc=>by
  cases h with
  | rd h=>exact h
  | _=>unfold A1 at hc;exact hc.elim
 have ca : ∀ {c:AV} {v:Value},CA B S m c v->A1 c->DA m.w (safe B S m) c v:=λ h hc=>by
  cases h with
  | one h=>exact Or.inl (one h hc)
  | fn=>unfold A1 at hc;exact hc.elim
  | agg cs vs h =>
   unfold A1 at hc;exact Or.inr ⟨cs,vs,rfl,rfl,h.1,λ j x u hx hu=>one (h.2 j x u hx hu) (MS hc j x hx)⟩
 cases h with
 | any v=>unfold A1 at hc;exact hc.elim
 | ca h=>exact Or.inl (ca h hc)
 | j5 as vs hl h =>
  unfold A1 at hc;exact Or.inr ⟨as,vs,rfl,rfl,hl,λ j x u hx hu=>ca (h j x u hx hu) (MS hc j x hx)⟩
theorem WC {f:Nat} {xs:Array Operand} {ts:Array TypeId} (j8:o.op = .call ⟨.value (.func f),xs,ts⟩) {w:World} (h:(callFunc f (xs.map a.eval)).run P w = .ok (.enter f (xs.map a.eval)) w):(execOp a.eval o).run P w = .ok (.enter f (xs.map a.eval)) w:=by
 simp [execOp,j8,resolve,Deferred.ofValue,Act.eval,invoke];exact h
theorem gK {C:Cl} (hC:G0 P num C) (hm:BI B S w0 m) (hs:CD B S m ρ a.eval) {f:Nat} {xs:Array Operand} {m8:List AM} (he:DX xs.toList m8=true) (hex : ∀ w:World,(callFunc (num f) (xs.map a.eval)).run P w = .ok (.enter (num f) (xs.map a.eval)) w->(execOp a.eval o).run P w = .ok (.enter (num f) (xs.map a.eval)) w) {vs:List AV} {r:AV} (hv:(m8.map ρ).mapM (DB m.own true)=some vs) (hr:C.pure f vs=some r):CF B S w0 P o a m (.val r):=by
 obtain ⟨hl,hx⟩:=QU hs he;obtain ⟨ff,fr⟩:=NR _ hv;have eo:(xs.map a.eval)=(xs.toList.map a.eval).toArray:=by cases xs;simp
 have fp : ∀ (j:Nat) (c:AV) (v:Value),vs[j]? = some c->(xs.toList.map a.eval)[j]? = some v->CA m.w.heap.size (safe B S m false) ⟨λ_ _=>none,AH.emp,m.w⟩ c v:=by
  intro j c v hc lu;rw[List.getElem?_map]at lu;cases iq:xs.toList[j]? with
  | none=>simp [iq]at lu
  | some x =>
   simp [iq]at lu;subst lu;have bp:j<m8.length:=by rw[<-hl];exact (zS iq).1
   obtain ⟨y,hy,cw⟩:=fr j (ρ m8[j]) (by rw[List.getElem?_map,zE bp];rfl);rw[hc]at hy;obtain rfl:c=y:=by simpa using hy
   have q6:=hx j x m8[j] iq (zE bp);have va:=WK hm true (safe m.w.heap.size (safe B S m false) ⟨λ_ _=>none,AH.emp,m.w⟩) (λ l b hb rm=>by
    cases l with
    | false=>exact .inl ⟨rm,hb⟩
    | true=>exact .inr (.inr ⟨rfl,hb⟩)) (λ s t g fi hg=>by
    obtain ⟨_,arr,e,hh⟩:=hm.ge fi hg;exact .inr (.inr ⟨rfl,(Array.getElem?_eq_some_iff.1 hh).1⟩)) cw q6
   exact DA.ca (m:=⟨λ_ _=>none,AH.emp,m.w⟩) va
 have bz:=hC.pure f vs r hr (safe B S m false) m.w (xs.toList.map a.eval) (by rw[<-ff];simp [hl]) fp;intro K Q hK;unfold Oper.wp;rw[hex _ (hC.nz f vs r hr _ _),eo];refine Calls.mono bz λ e w' ⟨u,ef,ea,q6,n6⟩ => ?_
 subst ef;obtain ⟨gp,ck⟩:=grow hm ea;refine hK u ⟨m.ν,m.own,w'⟩ rfl gp ck ?_;refine DV.cv (m:=⟨m.ν,m.own,w'⟩) ((XW q6 n6).clean (λ b hb rm => ?_) n6);rcases rm with ⟨h1,h2⟩|⟨h1,_⟩|⟨h1,_⟩
 ·exact ck.ub false b h2 h1
 ·refine .inr (.inl ⟨Nat.le_trans hm.size h1,λ s t fi hg => ?_⟩)
  obtain ⟨b',k6⟩:=Option.isSome_iff_exists.1 fi;obtain ⟨_,arr,e,hh⟩:=hm.ge ⟨b',k6⟩ hg;have:=(Array.getElem?_eq_some_iff.1 hh).1
  omega
 ·cases h1
theorem wJ {C:Cl} (hC:G0 P num C) (hm:BI B S w0 m) (hs:CD B S m ρ a.eval) {f:Nat} {m8:List AM} (h:A2 P num o.op (.call f m8)=true) {vs:List AV} {r:AV} (hv:(m8.map ρ).mapM (DB m.own true)=some vs) (hr:C.pure f vs=some r):CF B S w0 P o a m (.val r):=by
 obtain ⟨xs,ts,j8,he⟩:=ZL h;exact gK hC hm hs he (λ w h=>WC j8 h) hv hr
theorem gH {C:Cl} (hC:G0 P num C) (hm:BI B S w0 m) (hs:CD B S m ρ a.eval) {f:Nat} {m8:List AM} (h:A2 P num o.op (.g6 f m8)=true) {r:AV} {l8:AH} (hr:C.dh f (m8.map ρ) m.own=some (r,l8)):CF B S w0 P o a m (.z0 r l8):=by
 obtain ⟨xs,ts,j8,he⟩:=Oj h;obtain ⟨hl,hx⟩:=QU hs he;have eo:(xs.map a.eval)=(xs.toList.map a.eval).toArray:=by cases xs;simp
 have bz:=hC.dh f (m8.map ρ) m.own r l8 hr B S w0 m (xs.toList.map a.eval) rfl hm (by simp [hl]) (λ j c v hc hv=>by
  rw[List.getElem?_map]at hc hv;cases iq:xs.toList[j]? with
  | none=>simp [iq]at hv
  | some x =>
   cases tu:m8[j]? with
   | none=>simp [tu]at hc
   | some y =>
    simp [iq]at hv;simp [tu]at hc;subst hv hc;exact hx j x y iq tu)
 intro K Q hK;unfold Oper.wp;rw[WC j8 (hC.js f _ _ _ hr _ _),eo];refine Calls.mono bz λ e w' ⟨u,m',ef,hw,j6,gp,ck,q6⟩ => ?_
 subst ef hw;exact hK u m' j6 gp ck q6
theorem tK (hm:BI B S w0 m) {w':World} (hb:Below m.w.heap.size m.w w') (s:Nat) (b:DJ) (gg:Option Nat) (hz : ∀ x∈b.es,x.length=b.a6)
  (hg:match gg with|none=>b.es=[]|some g=>m.w.heap.size<=g /\ ∃ arr e,w'.heap[g]? = some (.cells arr e (0,0)) /\ ∀ i cs,b.es[i]? = some cs -> ∀ j c,cs[j]? = some c -> ∃ u,arr[i*b.a6+j]? = some u/\CC B S ⟨g9 m s gg,m.own.put s ((m.own s).new b),w'⟩ c u) :
  BI B S w0 ⟨g9 m s gg,m.own.put s ((m.own s).new b),w'⟩/\C7 B S m ⟨g9 m s gg,m.own.put s ((m.own s).new b),w'⟩:=by
 have hν : ∀ s' t',live m s' t'->g9 m s gg s' t'=m.ν s' t':=λ s' t' hl=>by
  unfold g9;rw[if_neg];rintro ⟨rfl,rfl⟩
  exact VX hm _ hl
 have ig : ∀ g,gg=some g->m.w.heap.size<=g:=λ g e=>by subst e;exact hg.1
 have he:C7 B S m ⟨g9 m s gg,m.own.put s ((m.own s).new b),w'⟩:=by
  refine PQ hm hb.size (λ k hk _=>hb.block k hk) (λ s' => ?_) (λ s' t' b' ht k6 => ?_) (λ s' t' g hl ag l6 => ?_)
  ·rw[JL];split
   ·rename_i h;subst h;omega
   ·exact Nat.le_refl _
  ·rw[FL]at k6
   rw[if_neg (by rintro ⟨rfl,rfl⟩;omega)]at k6;refine ⟨b',k6,rfl,hν s' t' ⟨b',k6⟩,λ g ar e' ag ha=>⟨ar,?_,rfl⟩⟩;exact (hb.block g (Array.getElem?_eq_some_iff.1 ha).1).trans ha
  ·obtain ⟨b',k6⟩:=hl
   rw[FL]at k6;by_cases h:s'=s/\t'=m.own.g7 s
   ·simp only[g9,if_pos h]at ag
    have:=ig g ag
    omega
   ·rw[if_neg h]at k6
    exact ⟨s',t',⟨b',k6⟩,by rw[<-hν s' t' ⟨b',k6⟩];exact ag⟩
 refine ⟨⟨hm.below.trans (hb.mono hm.size),Nat.le_trans hm.size hb.size,λ s' t' ht => ?_,λ s' t' b' k6 => ?_,λ s1 t1 s2 t2 b1 b2 g h1 h2 g1 g2 => ?_⟩,he⟩
 ·rw[JL]at ht
  rw[FL,if_neg]
  ·refine hm.fresh s' t' ?_
   split at ht
   ·rename_i h;subst h;omega
   ·exact ht
  ·rintro ⟨rfl,rfl⟩
   simp at ht;omega
 ·rw[FL]at k6
  by_cases h:s'=s/\t'=m.own.g7 s
  ·rw[if_pos h]at k6
   obtain rfl:b=b':=by simpa using k6
   refine ⟨hz,?_⟩;show match g9 m s gg s' t' with|none=>_|some g=>_
   rw[show g9 m s gg s' t'=gg by simp [g9,h]];cases gg with
   | none=>exact hg
   | some g=>exact ⟨Nat.le_trans hm.size hg.1,hg.2⟩
  ·rw[if_neg h]at k6
   obtain ⟨h1,h2⟩:=hm.e8 s' t' b' k6;refine ⟨h1,?_⟩;show match g9 m s gg s' t' with|none=>_|some g=>_
   rw[hν s' t' ⟨b',k6⟩];cases hv:m.ν s' t' with
   | none=>rw[hv]at h2;exact h2
   | some g =>
    rw[hv]at h2;obtain ⟨h3,ar,e',h4,h5⟩:=h2;refine ⟨h3,ar,e',(hb.block g (Array.getElem?_eq_some_iff.1 h4).1).trans h4,λ i cs hi j c hj => ?_⟩;obtain ⟨u,hu,q9⟩:=h5 i cs hi j c hj;exact ⟨u,hu,he.cc q9⟩
 ·rw[FL]at h1 h2
  have lt : ∀ s' t' b',m.own.get s' t'=some b'->g9 m s gg s' t'=some g->g<m.w.heap.size:=λ s' t' b' k6 ag=>by
   rw[hν s' t' ⟨b',k6⟩]at ag;obtain ⟨_,ar,e',h4⟩:=hm.ge ⟨b',k6⟩ ag;exact (Array.getElem?_eq_some_iff.1 h4).1
  have at_ : ∀ s' t',s'=s/\t'=m.own.g7 s->g9 m s gg s' t'=some g->m.w.heap.size<=g:=λ s' t' h ag=>by
   simp only[g9,if_pos h]at ag;exact ig g ag
  by_cases p1:s1=s/\t1=m.own.g7 s<;>by_cases p2:s2=s/\t2=m.own.g7 s
  ·exact ⟨p1.1.trans p2.1.symm,p1.2.trans p2.2.symm⟩
  ·rw[if_neg p2]at h2
   have:=lt s2 t2 b2 h2 g2
   have:=at_ s1 t1 p1 g1
   omega
  ·rw[if_neg p1]at h1
   have:=lt s1 t1 b1 h1 g1
   have:=at_ s2 t2 p2 g2
   omega
  ·rw[if_neg p1]at h1
   rw[if_neg p2]at h2;exact hm.inj s1 t1 s2 t2 b1 b2 g h1 h2 (by rw[<-hν s1 t1 ⟨b1,h1⟩];exact g1) (by rw[<-hν s2 t2 ⟨b2,h2⟩];exact g2)
theorem wM {C:Cl} (hC:G0 P num C) (hm:BI B S w0 m) (hs:CD B S m ρ a.eval) {s f:Nat} {m8:List AM} (h:A2 P num o.op (.o6 s f m8)=true) {vs:List AV} (hv:(m8.map ρ).mapM (M6 m.own true)=some vs) {z:Nat} {es:List (List AV)} (hr:MO (C.dh f vs AH.emp)=some (z,es)) :
  CF B S w0 P o a m (.new s ⟨z,es⟩ (λ t => .row s t z 0 es.length)):=by
 obtain ⟨xs,ts,j8,he⟩:=ZL (Om h);obtain ⟨s0,t0,o',b0,Hy,l7,rfl,n6⟩:=tJ hr;obtain ⟨hl,hx⟩:=QU hs he;obtain ⟨ff,fr⟩:=NR _ hv;have eo:(xs.map a.eval)=(xs.toList.map a.eval).toArray:=by cases xs;simp
 have fp : ∀ (j:Nat) (c:AV) (v:Value),vs[j]? = some c->(xs.toList.map a.eval)[j]? = some v->CV m.w.heap.size (safe B S m false) ⟨λ_ _=>none,AH.emp,m.w⟩ c v:=by
  intro j c v hc lu;rw[List.getElem?_map]at lu;cases iq:xs.toList[j]? with
  | none=>simp [iq]at lu
  | some x =>
   simp [iq]at lu;subst lu;have bp:j<m8.length:=by rw[<-hl];exact (zS iq).1
   obtain ⟨y,hy,cw⟩:=fr j (ρ m8[j]) (by rw[List.getElem?_map,zE bp];rfl);rw[hc]at hy;obtain rfl:c=y:=by simpa using hy
   have q6:=hx j x m8[j] iq (zE bp);have hN:(ρ m8[j] = .nil/\c = .nil)\/DB m.own true (ρ m8[j])=some c:=by
    cases e:ρ m8[j] with
    | nil=>rw[e]at cw;exact .inl ⟨rfl,(Option.some.inj cw).symm⟩
    | _=>rw[e]at cw;exact .inr cw
   rcases hN with ⟨e1,rfl⟩|cw
   ·rw[e1]at q6
    rw[NJ q6];exact .ca (.one .nil)
   have va:=WK hm true (safe m.w.heap.size (safe B S m false) ⟨λ_ _=>none,AH.emp,m.w⟩) (λ l b hb rm=>by
    cases l with
    | false=>exact .inl ⟨rm,hb⟩
    | true=>exact .inr (.inr ⟨rfl,hb⟩)) (λ s t g fi hg=>by
    obtain ⟨_,arr,e,hh⟩:=hm.ge fi hg;exact .inr (.inr ⟨rfl,(Array.getElem?_eq_some_iff.1 hh).1⟩)) cw q6
   exact .ca (DA.ca (m:=⟨λ_ _=>none,AH.emp,m.w⟩) va)
 have Vn:BI m.w.heap.size (safe B S m false) m.w ⟨λ_ _=>none,AH.emp,m.w⟩:=⟨Below.refl _ _,Nat.le_refl _,λ_ _ _=>rfl,(λ s t b h=>by cases h),(λ_ _ _ _ _ _ _ h=>by cases h)⟩;have bz:=hC.dh f vs AH.emp _ o' Hy m.w.heap.size (safe B S m false) m.w ⟨λ_ _=>none,AH.emp,m.w⟩ (xs.toList.map a.eval) rfl Vn (by rw[<-ff];simp [hl]) fp;intro K Q hK;unfold Oper.wp;rw[WC j8 (hC.js f _ _ _ Hy _ _),eo];refine Calls.mono bz λ e w' ⟨u,m',ef,hw,j6,gp,Hs,q6⟩ => ?_
 subst ef hw;have ea:Below m.w.heap.size m.w m'.w:=gp.below;rw[<-j6]at l7;obtain ⟨hz,ib⟩:=gp.e8 s0 t0 b0 l7;obtain ⟨ad,cap,rfl,ht,ay,de,ha,hb⟩:=PI q6;obtain ⟨bk,au⟩:=hb b0 l7;subst bk;have hold : ∀ s t g,live m s t->m.ν s t=some g->g<m.w.heap.size:=λ s t g fi hg=>by
  obtain ⟨_,arr,e,hh⟩:=hm.ge fi hg;exact (Array.getElem?_eq_some_iff.1 hh).1
 have vj : ∀ s' t' g,live ⟨g9 m s (m'.ν s0 t0),m.own.put s ((m.own s).new ⟨b0.a6,b0.es⟩),m'.w⟩ s' t'->g9 m s (m'.ν s0 t0) s' t'=some g->g<m.w.heap.size\/m'.ν s0 t0=some g:=λ s' t' g fi hg=>by
  obtain ⟨b',k6⟩:=fi;rw[FL]at k6;by_cases j9:s'=s/\t'=m.own.g7 s
  ·simp only[g9,if_pos j9]at hg
   exact Or.inr hg
  ·rw[if_neg j9]at k6
   simp only[g9,if_neg j9]at hg;exact Or.inl (hold s' t' g ⟨b',k6⟩ hg)
 have hR : ∀ b,b<m'.w.heap.size->safe m.w.heap.size (safe B S m false) m' false b->safe B S ⟨g9 m s (m'.ν s0 t0),m.own.put s ((m.own s).new ⟨b0.a6,b0.es⟩),m'.w⟩ false b:=λ b Ho rm=>by
  rcases rm with ⟨h1,h2⟩|⟨h1,h2⟩|⟨h1,_⟩
  ·rcases h1 with h1|⟨h1,h3⟩|⟨h1,_⟩
   ·exact .inl h1
   ·refine .inr (.inl ⟨h1,λ s' t' fi hg => ?_⟩)
    obtain ⟨b',k6⟩:=Option.isSome_iff_exists.1 fi;have o7:=k6;rw[FL]at o7;by_cases j9:s'=s/\t'=m.own.g7 s
    ·simp only[g9,if_pos j9]at hg
     rw[hg]at ib;have:=ib.1
     omega
    ·rw[if_neg j9]at o7
     simp only[g9,if_neg j9]at hg;exact h3 s' t' (by rw[o7];rfl) hg
   ·cases h1
  ·refine .inr (.inl ⟨Nat.le_trans hm.size h1,λ s' t' fi hg => ?_⟩)
   rcases vj s' t' b (Option.isSome_iff_exists.1 fi) hg with h3|h3
   ·omega
   ·exact h2 s0 t0 (by rw[l7];rfl) h3
  ·cases h1
 obtain ⟨ga,ck⟩:=tK hm ea s ⟨b0.a6,b0.es⟩ (m'.ν s0 t0) hz (by
  cases hν:m'.ν s0 t0 with
  | none=>rw[hν]at ib;exact ib
  | some g =>
   rw[hν]at ib hR;obtain ⟨h1,arr,e,h2,h3⟩:=ib;refine ⟨h1,arr,e,h2,λ i cs hi j c hj => ?_⟩;obtain ⟨u,hu,q9⟩:=h3 i cs hi j c hj;refine ⟨u,hu,.rd ?_⟩;have og:=MS (UZ n6 i cs hi) j c hj;have gq:Rd m'.w (safe m.w.heap.size (safe B S m false) m') c u:=by
    cases q9 with
    | rd h=>exact h
    | _=>unfold A1 at og;exact og.elim
   exact gq.clean hR og)
 refine hK _ ⟨g9 m s (m'.ν s0 t0),m.own.put s ((m.own s).new ⟨b0.a6,b0.es⟩),m'.w⟩ rfl ga ck (.ca (.one (.row s (m.own.g7 s) b0.a6 0 b0.es.length ad cap (by show m.own.g7 s<AH.g7 (m.own.put s _) s;rw[JL,if_pos rfl];omega) ay de ha λ b1 uw => ?_)));have yz:(m.own.put s ((m.own s).new ⟨b0.a6,b0.es⟩)).get s (m.own.g7 s)=some b1:=uw;rw[FL,if_pos ⟨rfl,rfl⟩]at yz;obtain rfl:=Option.some.inj yz;refine ⟨rfl,?_⟩;rcases au with h0|⟨g,arr,e,hg,fc,hh,hle⟩
 ·exact .inl h0
 ·exact .inr ⟨g,arr,e,by simp [g9,hg],fc,hh,hle⟩
theorem fQ {p:Bool} {f g:Nat} {cs:List AV} {v:Value} (h:CV B S m (.fn p f g cs) v) : ∃ vs:List Value,v = .func (.func g) #[] vs.toArray/\CL B S m cs vs:=by
 cases h with
 | ca h=>cases h with
  | one h=>cases h with
   | rd h=>cases h
  | fn p f g cs vs h=>exact ⟨vs,rfl,h⟩
theorem nG {f:Nat} {x:Operand} {xs:Array Operand} {ts:Array TypeId} {vs:Array Value} (j8:o.op = .call ⟨.value x,xs,ts⟩) (hx:a.eval x = .func (.func f) #[] vs) {w:World} (h:(callFunc f (xs.map a.eval++vs)).run P w = .ok (.enter f (xs.map a.eval++vs)) w):(execOp a.eval o).run P w = .ok (.enter f (xs.map a.eval++vs)) w:=by
 simp [execOp,j8,resolve,Deferred.ofValue,hx,invoke];exact h
theorem wN {C:Cl} (hC:G0 P num C) (hm:BI B S w0 m) (hs:CD B S m ρ a.eval) {x':AM} {m8:List AM} (h:A2 P num o.op (.n9 x' m8)=true) {f:Nat} {cs:List AV} (hf:ρ x' = .fn false f (num f) cs) {r:AV} {l8:AH} (hr:C.dh f (m8.map ρ++cs) m.own=some (r,l8)):CF B S w0 P o a m (.z0 r l8):=by
 obtain ⟨x,xs,ts,j8,pt,he⟩:=kO h;obtain ⟨hl,hx⟩:=QU hs he;obtain ⟨vs,hv,n6⟩:=fQ (hf ▸ hs x x' pt);have eo:(xs.map a.eval++vs.toArray)=(xs.toList.map a.eval++vs).toArray:=by cases xs;simp
 have bz:=hC.dh f (m8.map ρ++cs) m.own r l8 hr B S w0 m (xs.toList.map a.eval++vs) rfl hm (by simp [hl,n6.1]) (λ j c v hc hv=>by
  by_cases hj:j<m8.length
  ·rw[List.getElem?_append_left (by simpa using hj),List.getElem?_map]at hc
   rw[List.getElem?_append_left (by simpa [hl] using hj),List.getElem?_map]at hv;have Hz:j<xs.toList.length:=by rw[hl];exact hj
   rw[zE hj]at hc;rw[zE Hz]at hv;simp only[Option.map_some,Option.some.injEq]at hc hv;subst hc hv;exact hx j _ _ (zE Hz) (zE hj)
  ·rw[List.getElem?_append_right (by simpa using hj),List.length_map]at hc
   rw[List.getElem?_append_right (by simpa [hl] using hj),List.length_map,hl]at hv;exact .ca (.one (n6.2 _ c v hc hv)))
 intro K Q hK;unfold Oper.wp;rw[nG j8 hv (hC.js f _ _ _ hr _ _),eo];refine Calls.mono bz λ e w' ⟨u,m',ef,hw,j6,gp,ck,q6⟩ => ?_
 subst ef hw;exact hK u m' j6 gp ck q6
theorem wK {C:Cl} (hC:G0 P num C) (hm:BI B S w0 m) (hs:CD B S m ρ a.eval) {x':AM} {m8:List AM} (h:A2 P num o.op (.n9 x' m8)=true) {f:Nat} (hf:ρ x' = .fn true f (num f) []) {vs:List AV} {r:AV} (hv:(m8.map ρ).mapM (DB m.own true)=some vs) (hr:C.pure f vs=some r):CF B S w0 P o a m (.val r):=by
 obtain ⟨x,xs,ts,j8,pt,he⟩:=kO h;obtain ⟨us,hu,n6⟩:=fQ (hf ▸ hs x x' pt);have Wm:us=[]:=List.eq_nil_of_length_eq_zero (by rw[<-n6.1];rfl);subst Wm;refine gK hC hm hs he (λ w h => ?_) hv hr;have:=nG (P:=P) (w:=w) j8 hu (by simpa using h)
 simpa using this
theorem Rd.Xt {w:World} {R R':Bool->Nat->Prop} (hR : ∀ l b,b<w.heap.size->R l b -> ∀ l',R' l' b) {c:AV} {v:Value} (h:Rd w R c v) (hq:GD c=true):Rd w R' (RK c) v:=by
 cases h with
 | int k n=>exact .int k n
 | bool b=>exact .bool b
 | str s=>simp [GD]at hq
 | emp=>simp [GD]at hq
 | ew l a cap=>exact .ew false a cap
 | sl l es b o a6 cap u k8 hp h1 s9 hz n6 hr =>
  obtain ⟨e,c,he,cj⟩:=SV k8 hp hz;have hb:b<w.heap.size:=PE (n6 0 e he 0 c cj);exact .sl false es b o a6 cap u k8 hp (hR l b hb h1 false) s9 hz n6 λ i e he j c hj=>(hr i e he j c hj).mono (λ l b hb h=>hR l b hb h l) (λ_ _ _ _=>rfl)
theorem Rd.se {w:World} {R R':Bool->Nat->Prop} (hR : ∀ b,b<w.heap.size->R false b->R' true b) {c:AV} {v:Value} (h:Rd w R c v) (hc:A1 c) (hf:RR c):Rd w R' (S4 c) v:=by
 cases h with
 | int k n=>exact .int k n
 | bool b=>exact .bool b
 | str s=>exact hf.elim
 | emp=>exact hf.elim
 | ew l a cap=>exact .ew true a cap
 | sl l es b o a6 cap u k8 hp h1 s9 hz n6 hr =>
  unfold A1 at hc;obtain ⟨rfl,hc⟩:=hc;obtain ⟨e,c,he,cj⟩:=SV k8 hp hz;have hb:b<w.heap.size:=PE (n6 0 e he 0 c cj);refine .sl true es b o a6 cap u k8 hp (hR b hb h1) s9 hz n6 λ i e he j c hj => ?_
  have Ew:=hf e (zM he) c (zM hj);have Ih:=hr i e he j c hj;generalize u i j=vv at Ih ⊢;cases Ih<;>first|exact .int _ _|exact .bool _|(simp [Z2]at Ew)
theorem ZP : ∀ l:List AV,GS l=l.map FO
 | []=>by simp [GS]
 | c::r=>by rw[GS,ZP r];rfl
theorem lE : ∀ l:List (List AV),IK l=l.map λ e=>e.map FO
 | []=>by simp [IK]
 | c::r=>by rw[IK,lE r,ZP];rfl
theorem Rd.sf {w:World} {R R':Bool->Nat->Prop} (hR : ∀ b,b<w.heap.size->R false b->R' true b) {c:AV} {v:Value} (h:Rd w R c v):A1 c->Rd w R' (FO c) v:=by
 induction h with
 | int k n=>intro _;exact .int k n
 | bool b=>intro _;exact .bool b
 | str s=>intro _;exact .str s
 | emp b a cap h=>intro _;exact .emp b a cap h
 | ew l a cap=>intro _;exact .ew true a cap
 | sl l es b o a6 cap u k8 hp h1 s9 hz n6 hr ih =>
  intro hc;unfold A1 at hc;obtain ⟨rfl,hc⟩:=hc;obtain ⟨e,c,he,cj⟩:=SV k8 hp hz;have hb:b<w.heap.size:=PE (n6 0 e he 0 c cj);have kv : ∀ (i:Nat) (e':List AV),(es.map λ e:List AV=>e.map FO)[i]? = some e' -> ∃ e,es[i]? = some e/\e'=e.map FO:=λ i e' h=>by
   rw[List.getElem?_map]at h;cases hi:es[i]? with
   | none=>simp [hi]at h
   | some e=>exact ⟨e,rfl,by simpa [hi] using h.symm⟩
  have yy : ∀ (e:List AV) (j:Nat) (c':AV),(e.map FO)[j]? = some c' -> ∃ c,e[j]? = some c/\c'=FO c:=λ e j c' h=>by
   rw[List.getElem?_map]at h;cases hi:e[j]? with
   | none=>simp [hi]at h
   | some c=>exact ⟨c,rfl,by simpa [hi] using h.symm⟩
  have key:=Rd.sl (w:=w) (R:=R') true (es.map λ e:List AV=>e.map FO) b o a6 cap u (by simpa using k8) hp (hR b hb h1) (by simpa using s9)
   (λ e' ef=>by
    obtain ⟨e,he,rfl⟩:=List.mem_map.1 ef;rw[List.length_map];exact hz e he)
   (λ i e' hi j c' hj=>by
    obtain ⟨e,he,rfl⟩:=kv i e' hi;obtain ⟨c,wy,rfl⟩:=yy e j c' hj;exact n6 i e he j c wy)
   (λ i e' hi j c' hj=>by
    obtain ⟨e,he,rfl⟩:=kv i e' hi;obtain ⟨c,wy,rfl⟩:=yy e j c' hj;exact ih i e he j c wy (MS (UZ hc i e he) j c wy))
  rw[List.length_map]at key;rw[FO,lE];exact key
theorem wL {C:Cl} (hC:G0 P num C) (hm:BI B S w0 m) (hs:CD B S m ρ a.eval) {f:Nat} {m8:List AM} (h:A2 P num o.op (.k9 f m8)=true) (hq:(m8.map ρ).all dq=true) {r:AV} (hr:C.pure f ((m8.map ρ).map qt)=some r) (Eh:HE r\/O2 r):CF B S w0 P o a m (.val (JU r)):=by
 obtain ⟨xs,ts,j8,he⟩:=ZL (Ol h);obtain ⟨hl,hx⟩:=QU hs he;have eo:(xs.map a.eval)=(xs.toList.map a.eval).toArray:=by cases xs;simp
 have hR : ∀ l b,b<m.w.heap.size->safe B S m l b -> ∀ l',safe m.w.heap.size (safe B S m true) ⟨λ_ _=>none,AH.emp,m.w⟩ l' b:=λ l b hb h l' => .inl ⟨aS h,hb⟩
 have hcell : ∀ (c:AV) (v:Value),CC B S m c v->GD c=true->Rd m.w (safe m.w.heap.size (safe B S m true) ⟨λ_ _=>none,AH.emp,m.w⟩) (RK c) v:=λ c v hc hd=>by
  cases hc with
  | rd hr=>exact hr.Xt hR hd
  | nil=>exact .ew false none 0
  | row=>simp [GD]at hd
  | ptr=>simp [GD]at hd
  | o8=>simp [GD]at hd
 have fp : ∀ (j:Nat) (c:AV) (v:Value),((m8.map ρ).map qt)[j]? = some c->(xs.toList.map a.eval)[j]? = some v->CA m.w.heap.size (safe B S m true) ⟨λ_ _=>none,AH.emp,m.w⟩ c v:=by
  intro j c v hc lu;rw[List.getElem?_map,List.getElem?_map]at hc;rw[List.getElem?_map]at lu;cases iq:xs.toList[j]? with
  | none=>simp [iq]at lu
  | some x =>
   cases tu:m8[j]? with
   | none=>simp [tu]at hc
   | some y =>
    simp [iq]at lu;simp [tu]at hc;subst lu hc;have q6:=hx j x y iq tu;have hd:dq (ρ y)=true:=List.all_eq_true.1 hq _ (List.mem_map_of_mem (zM tu));generalize ρ y=cy at q6 hd ⊢;generalize a.eval x=vx at q6 ⊢;cases q6 with
    | any=>simp [dq,GD]at hd
    | j5=>simp [dq,GD]at hd
    | ca mg =>
     cases mg with
     | one sn =>
      have jb:GD cy=true/\qt cy=RK cy:=by
       cases sn with
       | rd hr=>cases hr<;>exact ⟨hd,rfl⟩
       | _=>exact ⟨hd,rfl⟩
      rw[jb.2];exact .one (.rd (hcell _ _ sn jb.1))
     | agg cs vs n6 =>
      refine .agg (cs.map RK) vs ⟨by simpa using n6.1,λ k c' v' u7 je => ?_⟩;rw[List.getElem?_map]at u7;cases ju:cs[k]? with
      | none=>simp [ju]at u7
      | some c0 =>
       simp [ju]at u7;subst u7;exact .rd (hcell c0 v' (n6.2 k c0 v' ju je) (List.all_eq_true.1 hd _ (zM ju)))
     | fn=>simp [dq,GD]at hd
 have bz:=hC.pure f _ r hr (safe B S m true) m.w (xs.toList.map a.eval) (by simp [hl]) fp;intro K Q hK;unfold Oper.wp;rw[WC j8 (hC.nz f _ r hr _ _),eo];refine Calls.mono bz λ e w' ⟨u,ef,ea,q6,n6⟩ => ?_
 subst ef;obtain ⟨gp,ck⟩:=grow hm ea;refine hK u ⟨m.ν,m.own,w'⟩ rfl gp ck ?_;have dz : ∀ b,b<w'.heap.size->safe m.w.heap.size (safe B S m true) ⟨λ_ _=>none,AH.emp,w'⟩ false b->safe B S ⟨m.ν,m.own,w'⟩ true b:=λ b hb rm=>by
  rcases rm with ⟨h1,h2⟩|⟨h1,_⟩|⟨h1,_⟩
  ·exact ck.ub true b h2 h1
  ·refine .inr (.inl ⟨Nat.le_trans hm.size h1,λ s t fi hg => ?_⟩)
   obtain ⟨b',k6⟩:=Option.isSome_iff_exists.1 fi;obtain ⟨_,arr,e,hh⟩:=hm.ge ⟨b',k6⟩ hg;have:=(Array.getElem?_eq_some_iff.1 hh).1
   omega
  ·cases h1
 by_cases cn:HE r
 ·rw[ZR cn]
  rcases XW q6 n6 with va|⟨cs,vs,rfl,_⟩
  ·rcases va with gq|⟨cs,vs,rfl,rfl,ff,hh⟩
   ·have e1:ru r=S4 r/\RR r:=by cases gq<;>exact ⟨rfl,cn⟩
    rw[show BW.valOf (.val (ru r)) m.own=ru r from rfl,e1.1];exact .ca (.one (.rd (gq.se dz n6 e1.2)))
   ·unfold A1 at n6
    refine .ca (.agg (cs.map S4) vs ⟨by simpa using ff,λ k c' v' u7 je => ?_⟩);rw[List.getElem?_map]at u7;cases ju:cs[k]? with
    | none=>simp [ju]at u7
    | some c0 =>
     simp [ju]at u7;subst u7;exact .rd ((hh k c0 v' ju je).se dz (MS n6 k c0 ju) (cn c0 (zM ju)))
  ·exact cn.elim
 ·rw[ZQ cn]
  have hd:=Eh.resolve_left cn;rcases XW q6 n6 with va|⟨cs,vs,rfl,_⟩
  ·rcases va with gq|⟨cs,vs,rfl,rfl,ff,hh⟩
   ·have e1:I9 r=FO r:=by cases gq<;>rfl
    rw[show BW.valOf (.val (I9 r)) m.own=I9 r from rfl,e1];exact .ca (.one (.rd (gq.sf dz n6)))
   ·unfold A1 at n6
    rw[show BW.valOf (.val (I9 (.agg cs))) m.own = .agg (GS cs) from rfl,ZP];refine .ca (.agg (cs.map FO) vs ⟨by simpa using ff,λ k c' v' u7 je => ?_⟩);rw[List.getElem?_map]at u7;cases ju:cs[k]? with
    | none=>simp [ju]at u7
    | some c0 =>
     simp [ju]at u7;subst u7;exact .rd ((hh k c0 v' ju je).sf dz (MS n6 k c0 ju))
  ·exact hd.elim
end
end Go.c4
