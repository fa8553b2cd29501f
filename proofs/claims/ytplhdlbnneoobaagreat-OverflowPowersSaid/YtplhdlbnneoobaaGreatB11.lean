/-
  Systems whose rows of A are small (the world's Calm).
-/
import Derived.Test.YtplhdlbnneoobaaGreatB4
import Derived.Test.YtplhdlbnneoobaaGreatB7
import Derived.Test.YtplhdlbnneoobaaGreatB9
import Derived.Test.YtplhdlbnneoobaaGreatB10
import Derived.Test.YtplhdlbnneoobaaGreatB1
import Derived.Test.YtplhdlbnneoobaaGreatB3
import Derived.ProofKit
import Derived.OpenShut
import Derived.ChangeOld
import Derived.WalkKit
import Derived.WideShapes
import Derived.ChangeArms
set_option linter.unusedSimpArgs false
set_option linter.unusedVariables false
set_option linter.unnecessarySimpa false
namespace Go.c4
open F
attribute [local irreducible] AA AF AR AB B7 AQ AY A7 A6 BS AP BO BW C0 BL A0 BH BZ AC A4 AL pw CD B2 CH CX CS CK CI BI B8
variable {L:Lib}
set_option maxHeartbeats 16000000
set_option maxRecDepth 8000
theorem wG (N:q7 L) (l:List Int) (q:Bool) (n:Nat) (hl : ∀ x∈l,F4 x) (hn:n<=1000000):MR L 141 [.sl q (l.map NX),.int .i64 (n:Int)] 3 ((E6 l n).map eQ):=by
 have iu : ∀ i:Nat,F4 (EC l (i:Int)):=λ i=>by
  unfold EC;split
  ·rw[List.getD_eq_getElem?_getD]
   cases e:l[((i:Int)).toNat]? with
   | none=>simp [F4]
   | some x=>exact hl x (zM e)
  ·simp [F4]
 refine MR.x N.IK rfl rfl ?_;(repeat' (apply AE<;>conv=>whnf))
 refine CW (λ i=>n-i) (λ(i:Nat)=>i<=n) (λ i=>[(6,.int .i64 i),(5,.row 5 0 3 0 i)]) (λ i=>[(5,5,.rw 3 ((E6 l i).map eQ))]) [] [] 0 (by (conv=>whnf);exact ⟨rfl,rfl,rfl⟩) (by omega) ?_;intro i p1 ih;by_cases hi:i<n
 ·have Cg:=λ q=>X2 N.too4 l q (i:Int)
  have hW:=X3 N.too4 (EC l (i:Int)) 2000 (iu i) (by omega);have Sb:0<=EA (EC l (i:Int)) 2000/\EA (EC l (i:Int)) 2000<2000:=by unfold EA;split<;>omega
  have ic:=kQ l i;have hlen:=PI l i;have hF:=RV N.toa9 (EA (EC l (i:Int)) 2000%25-12) (1+EA (EC l (i:Int)) 2000/25%8) (by omega) (by omega);have Ck:Ev L 125 [.int .i64 (EA (EC l (i:Int)) 2000%25-12),.int .i64 (1+EA (EC l (i:Int)) 2000/25%8)] (.agg (eQ (N4 (EA (EC l (i:Int)) 2000)))):=hF;clear hF;generalize N4 (EA (EC l (i:Int)) 2000)=y at *;generalize EA (EC l (i:Int)) 2000=v at *;(repeat' ((first|(apply AH<;>intro hc<;>try (exfalso;omega))|(apply AZ;omega)|(apply BX;omega)|(refine OL ?_ (λ_ _ _ => ?_) (λ_ _ _ _ => ?_);omega;all_goals try (exfalso;omega))|(refine NN ?_ ?_ (λ_ => ?_) (λ_ _ => ?_);omega;omega;all_goals try (exfalso;omega))|apply EG|apply AE|refine AD (Cg _) ?_|refine AD (hW) ?_|refine AD (Ck) ?_)<;>conv=>whnf))
  refine FA (enc:=eQ) y rfl hlen.symm rfl (by omega) (by omega) ?_;(conv=>whnf)
  (repeat' ((first|(apply AZ;omega)|fail)<;>conv=>whnf))
  rw[show (E6 l i++[y]).length=i+1 by simp [hlen],<-ic];exact BQ [(5,27)] (ih (i+1) (by omega) (by omega))
 ·obtain rfl:i=n:=by omega
  clear ih;have hlen:=PI l i;(repeat' ((first|(apply AH<;>intro hc<;>try (exfalso;omega))|apply AE)<;>conv=>whnf))
  exact ⟨rfl,rfl,by simp [hlen],rfl,MZ _⟩
def NT (n:Nat):Rat:=Rat.divInt 1 (16*n)
def P5 (l:List Int) (n:Nat):GH:=⟨B4 (NT n) (IG l n).a,(IG l n).b,(IG l n).c,(IG l n).d⟩
theorem S7 {es:List (List AV)} {i j n:Nat} {K:List AV->Prop} {cs ds:List AV} (h:es[i]? = some cs) (hp:part cs j n=some ds) (hk:K ds):A7 es i j n K:=by
 unfold A7;exact ⟨cs,ds,h,hp,hk⟩
theorem TJ {es:List (List AV)} {i j:Nat} {vs cs:List AV} {K:List (List AV)->Prop} (h:es[i]? = some cs) (hl:Nat.ble (j+vs.length) cs.length=true) (hk:K (es.set i (splice cs j vs))):A6 es i j vs K:=by
 unfold A6;exact ⟨cs,h,Nat.le_of_ble_eq_true hl,hk⟩
theorem TH {es:List (List AV)} {off len:Nat} {K:List (List AV)->Prop} (h:Nat.ble (off+len) es.length=true) (hz:es.all E1=true) (hk:K ((es.drop off).take len)):A0 es off len K :=
 RC (Nat.le_of_ble_eq_true h) (λ e he=>List.all_eq_true.1 hz e he) hk
theorem wA (N:z0 L) (l:List Int) (q:Bool) (n:Nat) (hl : ∀ x∈l,F4 x) (hn:n<=3):Ev L 317 [.sl q (l.map NX),.int .i64 (n:Int)] (.agg (eS (P5 l n))):=by
 have hR:=λ q=>wG N.toq7 l q (n*n+2*n+1) hl (by have:n*n<=9:=Nat.mul_le_mul hn hn;omega)
 have mg:=PI l (n*n+2*n+1);have Pp:=kP l (n*n+2*n+1);have hF:Ev L 125 [.int .i64 1,.int .i64 (16*n)] (.agg (eQ (NT n))):=RV N.toa9 1 (16*n) (by omega) (by omega);have kg:Bt 6 (NT n):=by
  rw[NT,show (16*n:Int)=((16*n:Nat):Int) by omega,Rat.divInt_ofNat];refine Bt.mk (by decide) ?_;show _<=64;omega
 have hM : ∀ x∈E6 l (n*n+2*n+1),Ev L 128 [.agg (eQ x),.agg (eQ (NT n))] (.agg (eQ (x*NT n))):=λ x hx=>XN N.toa9 (Pp x hx) kg (by omega) (by omega)
 unfold P5 IG;simp only[];generalize E6 l (n*n+2*n+1)=X at *;obtain rfl|rfl|rfl|rfl:n=0\/n=1\/n=2\/n=3:=by omega
 ·match X,mg with
  | [x0],_ =>
   refine Ev.x N.GT rfl rfl ?_;(repeat' (apply AE<;>conv=>whnf))
   refine EP 1000 N.GU rfl rfl ?_;(repeat' ((first|(apply AZ;omega)|(apply DW;omega)|apply AE)<;>conv=>whnf))
   refine L5 (enc:=eQ) 1 (hR _) rfl ?_;(conv=>whnf)
   (repeat' ((first|(apply A9;omega)|(apply AZ;omega)|(apply DW;omega)|(refine bH ?_ (λ_=>rfl) (λ v hv => ?_);omega)|(apply I4;omega))<;>conv=>whnf))
   obtain rfl:x0=v:=Option.some.inj hv;repeat (refine F2 ?_;(repeat' ((first|(apply AH<;>intro hc<;>try (exfalso;omega))|apply AE)<;>conv=>whnf)))
   refine ⟨rfl,?_⟩;(conv=>whnf)
   skip
   repeat (first|(refine F2 ?_;(repeat' ((first|(apply AH<;>intro hc<;>try (exfalso;omega))|apply AE)<;>conv=>whnf)))|(refine S7 rfl rfl ?_;(conv=>whnf);skip)|(refine TJ rfl rfl ?_;(conv=>whnf);skip))
   repeat (first|(refine A9 rfl ?_;(conv=>whnf))|(refine TH rfl rfl ?_;(conv=>whnf)))
   exact AU rfl (OU _)
 ·match X,mg with
  | [x0,x1,x2,x3],_ =>
   refine Ev.x N.GT rfl rfl ?_;(repeat' (apply AE<;>conv=>whnf))
   refine EP 1000 N.GU rfl rfl ?_;(repeat' ((first|(apply AZ;omega)|(apply DW;omega)|apply AE)<;>conv=>whnf))
   refine L5 (enc:=eQ) 4 (hR _) rfl ?_;(conv=>whnf)
   (repeat' ((first|(apply A9;omega)|(apply AZ;omega)|(apply DW;omega)|(refine S6 ?_ (λ_=>rfl) (λ v hv => ?_);omega)|(apply I4;omega))<;>conv=>whnf))
   obtain rfl:x3=v:=Option.some.inj hv;repeat (refine F2 ?_;(repeat' ((first|(apply AH<;>intro hc<;>try (exfalso;omega))|(apply A9;omega)|(apply AZ;omega)|(apply DW;omega)|(apply I4;omega)|apply AE)<;>conv=>whnf)))
   refine ⟨rfl,?_⟩;(conv=>whnf)
   skip
   repeat (first|(refine F2 ?_;(repeat' ((first|(apply AH<;>intro hc<;>try (exfalso;omega))|(apply A9;omega)|(apply AZ;omega)|apply AE)<;>conv=>whnf)))|(refine S7 rfl rfl ?_;(conv=>whnf);(repeat' ((first|(apply A9;omega)|(apply DW;omega)|refine AD (hF) ?_|refine AD (hM _ (by simp)) ?_)<;>conv=>whnf)))|(refine TJ rfl rfl ?_;(conv=>whnf);(repeat' ((first|(apply AZ;omega)|fail)<;>conv=>whnf))))
   repeat (first|(refine A9 rfl ?_;(conv=>whnf))|(refine TH rfl rfl ?_;(conv=>whnf)))
   exact AU rfl (OU _)
 ·match X,mg with
  | [x0,x1,x2,x3,x4,x5,x6,x7,x8],_ =>
   refine Ev.x N.GT rfl rfl ?_;(repeat' (apply AE<;>conv=>whnf))
   refine EP 1000 N.GU rfl rfl ?_;(repeat' ((first|(apply AZ;omega)|(apply DW;omega)|apply AE)<;>conv=>whnf))
   refine L5 (enc:=eQ) 9 (hR _) rfl ?_;(conv=>whnf)
   (repeat' ((first|(apply A9;omega)|(apply AZ;omega)|(apply DW;omega)|(refine S6 ?_ (λ_=>rfl) (λ v hv => ?_);omega)|(apply I4;omega))<;>conv=>whnf))
   obtain rfl:x8=v:=Option.some.inj hv;repeat (refine F2 ?_;(repeat' ((first|(apply AH<;>intro hc<;>try (exfalso;omega))|(apply A9;omega)|(apply AZ;omega)|(apply DW;omega)|(apply I4;omega)|apply AE)<;>conv=>whnf)))
   refine ⟨rfl,?_⟩;(conv=>whnf)
   skip
   repeat (first|(refine F2 ?_;(repeat' ((first|(apply AH<;>intro hc<;>try (exfalso;omega))|(apply A9;omega)|(apply AZ;omega)|apply AE)<;>conv=>whnf)))|(refine S7 rfl rfl ?_;(conv=>whnf);(repeat' ((first|(apply A9;omega)|(apply DW;omega)|refine AD (hF) ?_|refine AD (hM _ (by simp)) ?_)<;>conv=>whnf)))|(refine TJ rfl rfl ?_;(conv=>whnf);(repeat' ((first|(apply AZ;omega)|fail)<;>conv=>whnf))))
   repeat (first|(refine A9 rfl ?_;(conv=>whnf))|(refine TH rfl rfl ?_;(conv=>whnf)))
   exact AU rfl (OU _)
 ·match X,mg with
  | [x0,x1,x2,x3,x4,x5,x6,x7,x8,x9,xa,xb,xc,xd,xe,xf],_ =>
   refine Ev.x N.GT rfl rfl ?_;(repeat' (apply AE<;>conv=>whnf))
   refine EP 1000 N.GU rfl rfl ?_;(repeat' ((first|(apply AZ;omega)|(apply DW;omega)|apply AE)<;>conv=>whnf))
   refine L5 (enc:=eQ) 16 (hR _) rfl ?_;(conv=>whnf)
   (repeat' ((first|(apply A9;omega)|(apply AZ;omega)|(apply DW;omega)|(refine S6 ?_ (λ_=>rfl) (λ v hv => ?_);omega)|(apply I4;omega))<;>conv=>whnf))
   obtain rfl:xf=v:=Option.some.inj hv;repeat (refine F2 ?_;(repeat' ((first|(apply AH<;>intro hc<;>try (exfalso;omega))|(apply A9;omega)|(apply AZ;omega)|(apply DW;omega)|(apply I4;omega)|apply AE)<;>conv=>whnf)))
   refine ⟨rfl,?_⟩;(conv=>whnf)
   skip
   repeat (first|(refine F2 ?_;(repeat' ((first|(apply AH<;>intro hc<;>try (exfalso;omega))|(apply A9;omega)|(apply AZ;omega)|apply AE)<;>conv=>whnf)))|(refine S7 rfl rfl ?_;(conv=>whnf);(repeat' ((first|(apply A9;omega)|(apply DW;omega)|refine AD (hF) ?_|refine AD (hM _ (by simp)) ?_)<;>conv=>whnf)))|(refine TJ rfl rfl ?_;(conv=>whnf);(repeat' ((first|(apply AZ;omega)|fail)<;>conv=>whnf))))
   repeat (first|(refine A9 rfl ?_;(conv=>whnf))|(refine TH rfl rfl ?_;(conv=>whnf)))
   exact AU rfl (OU _)
end Go.c4




















namespace Go.c4
open Go.ChangeShapes Go.WideShapes Go.ChangeAt Go.RowKit
inductive Ty where
 | int (k:IntKind)
 | bool
 | sl (e:Ty)
 | nil
 | cons (a r:Ty)
def Ty.cells:Ty->Nat
 | .int _=>1 | .bool=>1 | .sl _=>1
 | .nil=>0
 | .cons a r=>a.cells+r.cells
def GG:Ty->List AV->Prop
 | .int k,cs => ∃ n,cs=[.int k n]/\(Lit.int k n).wf=true
 | .bool,cs => ∃ b,cs=[.bool b]
 | .sl e,cs => ∃ es,cs=[.sl true es]/\es.length<=maxLen /\ ∀ x∈es,GG e x
 | .nil,cs=>cs=[]
 | .cons a r,cs => ∃ x y,cs=x++y/\GG a x/\GG r y
theorem GG.len : ∀ {ty:Ty} {cs:List AV},GG ty cs->cs.length=ty.cells
 | .int _,cs,h=>by obtain ⟨n,rfl,_⟩:=h;rfl
 | .bool,cs,h=>by obtain ⟨n,rfl⟩:=h;rfl
 | .sl _,cs,h=>by obtain ⟨n,rfl,_⟩:=h;rfl
 | .nil,cs,h=>by rw[show cs=[] from h];rfl
 | .cons a r,cs,h=>by obtain ⟨x,y,rfl,h1,h2⟩:=h;simp [Ty.cells,GG.len h1,GG.len h2]
def J7 (P:Program):Nat->TypeId->Ty->Bool
 | 0,_,_=>false
 | n+1,t,ty=>match P.underlying t,ty with
  | some (.int k),.int k'=>decide (k=k')
  | some .bool,.bool=>true
  | some (.slice e),.sl fx=>J7 P n e fx&&(P.cellsOf e == fx.cells&&decide (0<fx.cells))
  | some (.struct fs),ty=>go (J7 P n) fs.toList 0 ty&&P.cellsOf t == ty.cells
  | _,_=>false
where
 go (ok:TypeId->Ty->Bool):List Field->Nat->Ty->Bool
  | [],_,.nil=>true
  | f::fs,off,.cons a r=>(f.offset == off&&(ok f.type a&&P.cellsOf f.type == a.cells))&&go ok fs (off+a.cells) r
  | _,_,_=>false
section
variable {H:Type} {enc:TypeId × Value->H} {P:Program} {w:World} {base:Nat} {spare:Nat->Bool} {held:Bool} {R:Bool->Nat->Prop}
def GW (w:World) (R:Bool->Nat->Prop) (as:List AV) (cs:List Value):Prop:=as.length=cs.length /\ ∀ (j:Nat) (a:AV) (c:Value),as[j]? = some a->cs[j]? = some c->Rd w R a c
theorem GW.one {a:AV} {c:Value} (h:Rd w R a c):GW w R [a] [c]:=by
 refine ⟨rfl,λ j a' c' h1 h2 => ?_⟩;cases j with
 | zero=>simp at h1 h2;subst h1 h2;exact h
 | succ j=>simp at h1
theorem GW.append {as bs:List AV} {cs ds:List Value} (h1:GW w R as cs) (h2:GW w R bs ds):GW w R (as++bs) (cs++ds):=by
 refine ⟨by simp [h1.1,h2.1],λ j a c ha hc => ?_⟩;by_cases hj:j<as.length
 ·rw[List.getElem?_append_left hj]at ha
  rw[List.getElem?_append_left (by rw[<-h1.1];exact hj)]at hc;exact h1.2 j a c ha hc
 ·rw[List.getElem?_append_right (by omega)]at ha
  rw[List.getElem?_append_right (by rw[<-h1.1];omega),<-h1.1]at hc;exact h2.2 _ a c ha hc
theorem bX (a:Addr) (i:Nat) (h:a.spot=none):a.add i=⟨a.block,a.off+i,none⟩:=by
 obtain ⟨b,o,s⟩:=a;simp only at h;subst h;exact GI b o i
theorem kD (hR : ∀ b,b<w.heap.size->R true b) (m:Nat) (ih : ∀ (ty:Ty) (t:TypeId) (cs:List Value) (fuel:Nat) (x:DataW H × List MemPlace),J7 P m t ty=true->DataW.trod enc P w base spare held fuel t cs=some x -> ∃ as,GG ty as/\GW w R as cs)
  (n:Nat) (cs:List Value) : ∀ (fs:List Field) (off:Nat) (ty:Ty),J7.go P (J7 P m) fs off ty=true->(∀ f∈fs,∃ y,DataW.trod enc P w base spare held n f.type ((cs.drop f.offset).take (P.cellsOf f.type))=some y)->off+ty.cells=cs.length -> ∃ as,GG ty as/\GW w R as (cs.drop off)
 | [],off,ty,j5,_,hl=>by
  cases ty<;>simp only[J7.go,Bool.false_eq_true]at j5;simp only[Ty.cells]at hl;exact ⟨[],rfl,by rw[List.drop_of_length_le (by omega)];exact ⟨rfl,λ j a c h=>by simp at h⟩⟩
 | f::fs,off,ty,j5,hf,hl=>by
  cases ty<;>simp only[J7.go,Bool.false_eq_true,Bool.and_eq_true,beq_iff_eq]at j5;rename_i a r;obtain ⟨⟨h1,h2,h3⟩,h4⟩:=j5;simp only[Ty.cells]at hl;obtain ⟨y,hy⟩:=hf f List.mem_cons_self;rw[h1,h3]at hy;obtain ⟨Fk,g1,g2⟩:=ih a f.type _ n y h2 hy;obtain ⟨Fl,g3,g4⟩:=kD hR m ih n cs fs (off+a.cells) r h4 (λ f' h'=>hf f' (List.mem_cons_of_mem _ h')) (by omega);refine ⟨Fk++Fl,⟨Fk,Fl,rfl,g1,g3⟩,?_⟩;have:=g2.append g4
  rwa [show (cs.drop off).take a.cells++cs.drop (off+a.cells)=cs.drop off by rw[<-List.drop_drop,List.take_append_drop]]at this
theorem kC (hR : ∀ b,b<w.heap.size->R true b) : ∀ (m:Nat) (ty:Ty) (t:TypeId) (cs:List Value) (fuel:Nat) (x:DataW H × List MemPlace),J7 P m t ty=true->DataW.trod enc P w base spare held fuel t cs=some x -> ∃ as,GG ty as/\GW w R as cs
 | 0,_,_,_,_,_,h,_=>by simp [J7]at h
 | m+1,ty,t,cs,fuel,x,j5,h=>by
  have ih:=kC hR m;simp only[J7]at j5;split at j5
  ·rename_i k k' hu
   obtain rfl:k=k':=by simpa using j5
   obtain ⟨n,rfl,_,hw⟩:=DataW.trod_int hu h;exact ⟨[.int k n],⟨n,rfl,hw⟩,GW.one (.int k n)⟩
  ·rename_i hu
   cases fuel with
   | zero=>simp [DataW.trod]at h
   | succ fuel =>
    unfold DataW.trod at h;rw[hu]at h;split at h<;>simp_all
    exact ⟨_,⟨_,rfl⟩,GW.one (.bool _)⟩
  ·rename_i e fx hu
   simp only[Bool.and_eq_true,beq_iff_eq,decide_eq_true_eq]at j5;obtain ⟨h1,h2,h3⟩:=j5;rcases DataW.trod_slice hu h with ⟨rfl,_⟩|⟨a,len,cap,elems,rest,n,_,rfl,_,hb,hl,hm,hlen,w5,_,_⟩
   ·exact ⟨[.sl true []],⟨[],rfl,by simp,by simp⟩,GW.one (.eh true none 0)⟩
   ·have each : ∀ i,i<len -> ∃ as bl,GG fx as/\GW w R as bl/\bl.length=fx.cells /\ ∀ j,j<fx.cells->w.cell? ((a.add (i*fx.cells)).add j)=bl[j]? := by
     intro i hi;have:=w5 i hi
     rw[h2,zE (by omega),Option.bind_eq_some_iff]at this;obtain ⟨bl,hc,ht⟩:=this;obtain ⟨as,g1,g2⟩:=ih fx e bl n _ h1 ht;obtain ⟨_,q1,q2⟩:=World.cells?_some hc;exact ⟨as,bl,g1,g2,q1,q2⟩
    by_cases h0:len=0
    ·subst h0
     exact ⟨[.sl true []],⟨[],rfl,by simp,by simp⟩,GW.one (.eh true (some a) cap)⟩
    ·have si:a.spot=none:=by
      obtain ⟨as,bl,_,_,q1,q2⟩:=each 0 (by omega);have:=q2 0 h3
      rw[zE (by omega)]at this;simpa [Addr.add] using World.cell?_spot this
     have gn:a.block<w.heap.size:=by
      obtain ⟨as,bl,_,_,q1,q2⟩:=each 0 (by omega);have:=q2 0 h3
      rw[zE (by omega)]at this;simpa [Addr.add] using OS this
     have pick : ∃ f:Nat->List AV × List Value,∀ i,i<len->GG fx (f i).1/\GW w R (f i).1 (f i).2/\(f i).2.length=fx.cells /\ ∀ j,j<fx.cells->w.cell? ((a.add (i*fx.cells)).add j)=(f i).2[j]? := by
      refine ⟨λ i=>if hi:i<len then (Classical.choose (each i hi),Classical.choose (Classical.choose_spec (each i hi))) else ([],[]),λ i hi => ?_⟩;simp only[hi,dif_pos];exact Classical.choose_spec (Classical.choose_spec (each i hi))
     obtain ⟨f,hf⟩:=pick;have l7 : ∀ i e',((List.range len).map λ i=>(f i).1)[i]? = some e'->i<len/\e'=(f i).1:=by
      intro i e' he;rw[List.getElem?_map]at he;by_cases hi:i<len
      ·rw[List.getElem?_range hi]at he
       simp at he;exact ⟨hi,he.symm⟩
      ·rw[List.getElem?_eq_none (by simpa using hi)]at he
       cases he
     refine ⟨[.sl true ((List.range len).map λ i=>(f i).1)],⟨_,rfl,by simp;omega,λ x hx => ?_⟩,GW.one ?_⟩
     ·obtain ⟨i,hi,rfl⟩:=List.mem_map.1 hx
      exact (hf i (List.mem_range.1 hi)).1
     ·obtain ⟨ab,ao,as⟩:=a
      simp only at si;subst si;have ry:((List.range len).map λ i=>(f i).1).length=len:=by simp
      have:=Rd.sl (w:=w) (R:=R) true ((List.range len).map λ i=>(f i).1) ab ao fx.cells cap (λ i j=>((f i).2[j]?).getD default) (by intro e;have:=congrArg List.length e;simp at this;omega) h3 (hR ab gn) (by rw[ry];exact hl)
       (λ e' he=>by
        obtain ⟨i,hi,rfl⟩:=List.mem_map.1 he;exact (hf i (List.mem_range.1 hi)).1.len)
       (λ i e' he j c hc=>by
        obtain ⟨hi,rfl⟩:=l7 i e' he;obtain ⟨g1,g2,g3,g4⟩:=hf i hi;have hj:j<fx.cells:=by
         have:=(zS hc).1
         rwa [g1.len]at this
        have h5:=g4 j hj;rw[bX ⟨ab,ao,none⟩ (i*fx.cells) rfl,bX _ _ rfl]at h5;simp only at h5;rw[show ao+(i*fx.cells+j)=ao+i*fx.cells+j by omega,h5,zE (by omega)];rfl)
       (λ i e' he j c hc=>by
        obtain ⟨hi,rfl⟩:=l7 i e' he;obtain ⟨g1,g2,g3,g4⟩:=hf i hi;have hj:j<fx.cells:=by
         have:=(zS hc).1
         rwa [g1.len]at this
        have h6:(f i).2[j]? = some ((f i).2[j]'(by omega)):=zE _;rw[h6];exact g2.2 j c _ hc h6)
      rwa [ry]at this
  ·rename_i fs hu
   simp only[Bool.and_eq_true,beq_iff_eq]at j5;obtain ⟨h1,h2⟩:=j5;obtain ⟨xs,n,_,_,hl,hlen,hf⟩:=DataW.trod_struct hu h;have:=kD hR m ih n cs fs.toList 0 _ h1 (λ f gq=>by
    obtain ⟨i,hi,rfl⟩:=List.getElem_of_mem gq;have h5:=hf i fs.toList[i] (by simp);rw[h5,zE (by simpa [hlen] using hi)];exact ⟨_,rfl⟩) (by rw[hl,h2];omega)
   simpa using this
  ·exact absurd j5 (by simp)
theorem ZB {S:Nat->Prop} {ty:Ty} {t:TypeId} {v:Value} {d:DataW H} {ps:List MemPlace} {m:Nat} (j5:J7 P m t ty=true) (hv:v.cells.toList=[v]) (h:DataW.Trod enc P w base spare held t v d ps) :
  ∃ a,GG ty [a]/\CA w.heap.size S ⟨λ_ _=>none,AG.emp,w⟩ a v:=by
 obtain ⟨fuel,hf⟩:=h;rw[hv]at hf;obtain ⟨as,h1,h2⟩:=kC (R:=safe w.heap.size S ⟨λ_ _=>none,AG.emp,w⟩) (λ b hb=>Or.inr (Or.inr ⟨rfl,hb⟩)) m ty t [v] fuel _ j5 hf;obtain ⟨a,rfl⟩ : ∃ a,as=[a]:=by
  have:=h2.1
  match as,this with
  | [a],_=>exact ⟨a,rfl⟩
 exact ⟨a,h1,.one (.rd (h2.2 0 a v rfl rfl))⟩
end
theorem rG {B:Nat} {S:Nat->Prop} {m:M} : ∀ (j:Nat) (c:AV) (v:Value),([]:List AV)[j]? = some c->([]:List Value)[j]? = some v->CA B S m c v:=λ j c v h=>by simp at h
theorem WI {B:Nat} {S:Nat->Prop} {m:M} {a:AV} {u:Value} {as:List AV} {us:List Value} (h:CA B S m a u) (hr : ∀ (j:Nat) (c:AV) (v:Value),as[j]? = some c->us[j]? = some v->CA B S m c v) :
  ∀ (j:Nat) (c:AV) (v:Value),(a::as)[j]? = some c->(u::us)[j]? = some v->CA B S m c v
 | 0,c,v,h1,h2=>by simp at h1 h2;subst h1 h2;exact h
 | j+1,c,v,h1,h2=>hr j c v (by simpa using h1) (by simpa using h2)
theorem Je {P:Program} {num:Nat->Nat} {L:Lib} (hP:ProgOK P num L) {f:Nat} {vs:List AV} (h:Ev L f vs (.bool true)) {S:Nat->Prop} {w:World} {us:List Value} (hl:vs.length=us.length)
  (ha : ∀ (j:Nat) (c:AV) (v:Value),vs[j]? = some c->us[j]? = some v->CA w.heap.size S ⟨λ_ _=>none,AG.emp,w⟩ c v) :
  Calls P (num f) us.toArray w λ e w'=>e = .returned (.bool true)/\Below w.heap.size w w':=by
 obtain ⟨n,hn⟩:=h;refine ((rO hP n).pure f vs _ hn S w us hl ha).mono ?_;rintro e w' ⟨u,rfl,hb,q6,_⟩
 refine ⟨?_,hb⟩;cases q6 with
 | ca lk=>cases lk with
  | one s8=>cases s8 with
   | rd gj=>cases gj;rfl
end Go.c4

namespace Go.c4
abbrev tI:Ty := .int .i64
theorem jD {α:Type} {enc:α->List AV} {p:α->Prop} : ∀ {es:List (List AV)},(∀ x∈es,∃ y,x=enc y/\p y) -> ∃ l:List α,es=l.map enc /\ ∀ y∈l,p y
 | [],_=>⟨[],rfl,by simp⟩
 | e::es,h=>by
  obtain ⟨y,rfl,hy⟩:=h e List.mem_cons_self;obtain ⟨l,rfl,hl⟩:=jD (enc:=enc) (p:=p) λ x hx=>h x (List.mem_cons_of_mem _ hx)
  exact ⟨y::l,rfl,by simpa using ⟨hy,hl⟩⟩
theorem zR {α:Type} {enc:α->List AV} {p:α->Prop} {e:Ty} {cs:List AV} (he : ∀ x,GG e x -> ∃ y,x=enc y/\p y) (h:GG (.sl e) cs) : ∃ l:List α,cs=[.sl true (l.map enc)]/\l.length<9223372036854775808 /\ ∀ y∈l,p y:=by
 obtain ⟨es,rfl,hl,hx⟩:=h;obtain ⟨l,rfl,hp⟩:=jD (enc:=enc) (p:=p) λ x hm=>he x (hx x hm)
 refine ⟨l,rfl,?_,hp⟩;have:maxLen=9223372036854775807:=rfl
 simp at hl;omega
theorem Oi {n:Int} (h:(Lit.int .i64 n).wf=true):F4 n:=by
 simp only[Lit.wf,Bool.and_eq_true,decide_eq_true_eq]at h;have h1:IntKind.i64.min = -9223372036854775808:=rfl;have h2:IntKind.i64.max=9223372036854775807:=rfl;rw[h1,h2]at h;unfold F4;constructor<;>omega
theorem iI {cs:List AV} (h:GG tI cs) : ∃ n,cs=NX n/\F4 n:=by obtain ⟨n,rfl,hw⟩:=h;exact ⟨n,rfl,Oi hw⟩
theorem zQ {cs:List AV} (h:GG (.sl tI) cs) : ∃ l:List Int,cs=[.sl true (l.map NX)]/\l.length<9223372036854775808 /\ ∀ v∈l,F4 v:=zR (λ_=>iI) h
end Go.c4



namespace Go.c4
open F
attribute [local irreducible] AA AF AR AB B7 AQ AY A7 A6 BS AP BO BW C0 BL A0 BH BZ AC A4 AL pw CD B2 CH CX CS CK CI BI B8
variable {L:Lib}
set_option maxHeartbeats 8000000
abbrev eM (m:List (List Rat)):List (List AV):=m.map λ r=>[AV.sl false (r.map eQ)]
theorem WR (m:List (List Rat)):FO (eM m):=RK (λ r=>by simp only[CM,A1,and_true,true_and];exact MZ r) m
theorem cO (m:List (List Rat)):A1 (.sl false (eM m)):=by
 simp only[A1,true_and];exact WR m
end Go.c4

namespace Go.c4
variable {L:Lib}
end Go.c4



namespace Go.c4
open F
attribute [local irreducible] AA AF AR AB B7 AQ AY A7 A6 BS AP BO BW C0 BL A0 BH BZ AC A4 AL pw CD B2 CH CX CS CK CI BI B8
variable {L:Lib}
set_option maxHeartbeats 16000000
abbrev GM (q:Bool) (m:List (List Rat)):List (List AV):=m.map λ r=>[AV.sl q (r.map eQ)]
end Go.c4

namespace Go.c4
variable {L:Lib}
end Go.c4

namespace Go.c4
open F
attribute [local irreducible] AA AF AR AB B7 AQ AY A7 A6 BS AP BO BW C0 BL A0 BH BZ AC A4 AL pw CD B2 CH CX CS CK CI BI B8
variable {L:Lib}
set_option maxHeartbeats 16000000
theorem tH:dg 1=[1]:=by rw[HT (by decide)];simp [EH]
end Go.c4

namespace Go.c4
section
variable {M ky:Nat} {g:List Pt}
end
end Go.c4

namespace Go.c4
open F
attribute [local irreducible] AA AF AR AB B7 AQ AY A7 A6 BS AP BO BW C0 BL A0 BH BZ AC A4 AL pw CD B2 CH CX CS CK CI BI B8
variable {L:Lib}
set_option maxHeartbeats 16000000
set_option maxRecDepth 8000
theorem Mv (x:Rat):qv false (dg x.num.natAbs) (dg x.den)=CJ x:=by
 unfold CJ;split
 ·rename_i h
  have:=EM (-x)
  rw[Rat.neg_num,Int.natAbs_neg,Rat.neg_den,show decide (-x.num<0)=false from decide_eq_false (by omega)]at this;exact this
 ·rename_i h
  have:=EM x
  rw[show decide (x.num<0)=false from decide_eq_false h]at this;exact this
theorem UF (N:v5 L) {x:Rat} {k:Nat} (hx:Bt k x) (hk:k<2199023255552):Ev L 256 [.agg (eQ x)] (.agg (eQ (CJ x))):=by
 have hs:=hx.sm hk;have hT:=X0 N.toa7 false false false (dg x.num.natAbs) (dg x.den) (hs.1.le (by omega)) (hs.2.le (by omega));rw[Mv]at hT;refine Ev.x N.KP rfl rfl ?_;(repeat' ((first|apply AE|refine AD (hT) ?_)<;>conv=>whnf))
 exact AU rfl (C8 _)
theorem vN (z:Int):eQ (z:Rat)=[.bool (decide (z<0)),.sl false ((dg z.natAbs).map AJ),.sl false [[.int .u32 1]]]:=by
 simp only[eQ,rQ,Rat.num_intCast,Rat.den_intCast,tH];rfl
end Go.c4



namespace Go.c4
open F
attribute [local irreducible] AA AF AR AB B7 AQ AY A7 A6 BS AP BO BW C0 BL A0 BH BZ AC A4 AL pw CD B2 CH CX CS CK CI BI B8
variable {L:Lib}
set_option maxHeartbeats 16000000
end Go.c4

namespace Go.c4
end Go.c4

namespace Go.c4
open F
attribute [local irreducible] AA AF AR AB B7 AQ AY A7 A6 BS AP BO BW C0 BL A0 BH BZ AC A4 AL pw CD B2 CH CX CS CK CI BI B8
variable {L:Lib}
set_option maxHeartbeats 16000000
theorem Ix {T:List (List Rat)} {n i:Nat} (hl:T.length=n) (hi:i<n):(mz T n i)[i]? = some none:=by
 have eu:(FJ 3 eQ (T.take i)).length=i:=by simp only[FJ,List.length_map,List.length_take];omega
 have:=yH (z:=(none:Option (Nat × List (List AV)))) (l:=FJ 3 eQ (T.take i)) (m:=n) (by omega)
 rw[eu]at this;exact this
end Go.c4

namespace Go.c4
set_option maxHeartbeats 2000000
def PW (a:List (List Rat)) (b:List Rat):Nat->List Rat
 | 0=>b
 | k+1=>FS a (PW a b k)
theorem Og {a:List (List Rat)} {b:List Rat} {n:Nat} (ha:a.length=n) (hb:b.length=n) : ∀ k,(PW a b k).length=n
 | 0=>hb
 | k+1=>by rw[PW,jS,ha]
theorem sL {a:List (List Rat)}:DP a=true ↔ ∀ r∈a,BG r<=1/2:=by
 rw[DP,List.all_eq_true];exact ⟨λ h r hr=>by simpa using h r hr,λ h r hr=>by simpa using h r hr⟩
def QI (a:List (List Rat)) (b:List Rat) (k:Nat):Rat:=C1 (PW a b k)
def QH (a:List (List Rat)) (b c:List Rat) (k:Nat):Rat:=CJ (BP c (PW a b k))
def QX (S:GH) (p:Nat):Rat:=CJ S.d+(I3 (QH S.a S.b S.c) (p+p)+BG S.c*I3 (λ j=>QI S.a S.b (p+j)) p)
theorem Ol {k l n:Nat} {a:List (List Rat)} {v:List Rat} (ha : ∀ r∈a,∀ x∈r,Wh k x) (hl : ∀ r∈a,r.length=n) (hv : ∀ x∈v,Wh l x) : ∀ x∈FS a v,Wh (k+l+n) x:=λ x hx=>by
 obtain ⟨r,hr,rfl⟩:=List.mem_map.1 hx;have:=Wh.dot (ha r hr) hv
 rwa [hl r hr]at this
theorem lS {n k:Nat} {a:List (List Rat)} (hs:Sq n a) (hb:Ms k a) : ∃ S:Nat,HO a.flatten=(S:Rat)/\0<S/\S<=2^(n*n*k) /\ ∀ r∈B4 (S:Rat) a,∀ x∈r,Wh (k+n*n*k) x:=by
 have hl:a.flatten.length=n*n:=by
  have : ∀ (a:List (List Rat)),(∀ r∈a,r.length=n)->a.flatten.length=a.length*n:=by
   intro a;induction a with
   | nil=>intro _;simp
   | cons r a ih =>
    intro h;rw[List.flatten_cons,List.length_append,ih λ x hx=>h x (List.mem_cons_of_mem _ hx),h r List.mem_cons_self,List.length_cons,Nat.succ_mul,Nat.add_comm]
  rw[this a hs.r,hs.l]
 have Pv:Bs k a.flatten:=λ x hx=>by
  obtain ⟨r,hr,hx⟩:=List.mem_flatten.1 hx;exact hb r hr x hx
 obtain ⟨S,e,h1,h2,h3⟩:=ZV Pv;rw[hl]at h2;refine ⟨S,e,h1,h2,λ r hr x hx => ?_⟩;obtain ⟨s,hs,rfl⟩:=List.mem_map.1 hr;obtain ⟨y,hy,rfl⟩:=List.mem_map.1 hx;obtain ⟨z,hz⟩:=h3 y (List.mem_flatten.2 ⟨s,hs,hy⟩);exact nA (hb s hs y hy) hz h2
theorem iZ {n k:Nat} {b:List Rat} (hl:b.length=n) (hb:Bs k b) : ∃ S:Nat,HO b=(S:Rat)/\0<S/\S<=2^(n*k) /\ ∀ x∈b.map (· * (S:Rat)),Wh (k+n*k) x:=by
 obtain ⟨S,e,h1,h2,h3⟩:=ZV hb;rw[hl]at h2;refine ⟨S,e,h1,h2,λ x hx => ?_⟩;obtain ⟨y,hy,rfl⟩:=List.mem_map.1 hx;obtain ⟨z,hz⟩:=h3 y hy;exact nA (hb y hy) hz h2
def DK (a:List (List Rat)) (b:List Rat) (D E:Rat) (j:Nat):List Rat:=(PW a b j).map (· * (E*D^j))
theorem nG (a:List (List Rat)) (b:List Rat) (D E:Rat):DK a b D E 0=b.map (· * E):=by
 rw[DK,Rat.pow_zero,Rat.mul_one];rfl
theorem nE (a:List (List Rat)) (b:List Rat) (D E:Rat) (j:Nat):DK a b D E (j+1)=FS (B4 D a) (DK a b D E j):=by
 rw[DK,DK,Is,PW];refine List.map_congr_left λ x _ => ?_
 rw[Rat.pow_succ];grind
def S3 (n k j:Nat):Nat:=(k+n*k)+j*((k+n*n*k)+n)
theorem nF {n k:Nat} {a:List (List Rat)} {b:List Rat} {D E:Nat} (hs:Sq n a) (hA : ∀ r∈B4 (D:Rat) a,∀ x∈r,Wh (k+n*n*k) x) (hB : ∀ x∈b.map (· * (E:Rat)),Wh (k+n*k) x) : ∀ j,∀ x∈DK a b D E j,Wh (S3 n k j) x
 | 0=>by
  rw[nG];intro x hx;exact (hB x hx).le (by rw[S3];omega)
 | j+1=>by
  rw[nE];intro x hx;refine (Ol hA (VM _ hs.r) (nF hs hA hB j) x hx).le ?_;simp only[S3,Nat.succ_mul];omega
def H2 (n:Nat) (a:List (List Rat)) (i:Nat):Prop:=DP (B1 n a i)=true /\ ∀ j,j<i->DP (B1 n a j)=false
theorem H2.uniq {n i j:Nat} {a:List (List Rat)} (hi:H2 n a i) (hj:H2 n a j):i=j:=by
 rcases Nat.lt_trichotomy i j with h|h|h
 ·have:=hj.2 i h
  rw[hi.1]at this;cases this
 ·exact h
 ·have:=hi.2 j h
  rw[hj.1]at this;cases this
def EO (k:Nat):Nat->Nat
 | 0=>k
 | i+1=>4*(EO k i+EO k i+1)
theorem Lg {k:Nat} : ∀ i,i<=7->EO k i<=2097152*k+1198372:=by
 intro i hi;have h1:EO k 0=k:=rfl;have e1:EO k 1=4*(EO k 0+EO k 0+1):=rfl;have e2:EO k 2=4*(EO k 1+EO k 1+1):=rfl;have e3:EO k 3=4*(EO k 2+EO k 2+1):=rfl;have e4:EO k 4=4*(EO k 3+EO k 3+1):=rfl;have e5:EO k 5=4*(EO k 4+EO k 4+1):=rfl;have e6:EO k 6=4*(EO k 5+EO k 5+1):=rfl;have e7:EO k 7=4*(EO k 6+EO k 6+1):=rfl;obtain rfl|rfl|rfl|rfl|rfl|rfl|rfl|rfl:i=0\/i=1\/i=2\/i=3\/i=4\/i=5\/i=6\/i=7:=by omega
 all_goals omega
theorem Z9 {n k:Nat} {a:List (List Rat)} (hs:Sq n a) (ha:Ms k a) (hn:n<=4) : ∀ i,Ms (EO k i) (B1 n a i)
 | 0=>ha
 | i+1=>(Ms.mul (Z9 hs ha hn i) (OB hs i) (Z9 hs ha hn i)).le (Nat.mul_le_mul_right _ hn)
def EK (k:Nat):Nat->Nat
 | 0=>17*k
 | i+1=>EK k i+EK k i+4
theorem Nc {k:Nat} : ∀ i,i<=7->EK k i<=2176*k+508:=by
 intro i hi;have h1:EK k 0=17*k:=rfl;have e1:EK k 1=EK k 0+EK k 0+4:=rfl;have e2:EK k 2=EK k 1+EK k 1+4:=rfl;have e3:EK k 3=EK k 2+EK k 2+4:=rfl;have e4:EK k 4=EK k 3+EK k 3+4:=rfl;have e5:EK k 5=EK k 4+EK k 4+4:=rfl;have e6:EK k 6=EK k 5+EK k 5+4:=rfl;have e7:EK k 7=EK k 6+EK k 6+4:=rfl;obtain rfl|rfl|rfl|rfl|rfl|rfl|rfl|rfl:i=0\/i=1\/i=2\/i=3\/i=4\/i=5\/i=6\/i=7:=by omega
 all_goals omega
theorem Oj {k l n:Nat} {a b:List (List Rat)} (ha : ∀ r∈a,∀ x∈r,Wh k x) (hl : ∀ r∈a,r.length=n) (hb : ∀ r∈b,∀ x∈r,Wh l x) : ∀ r∈FI a b n,∀ x∈r,Wh (k+l+n) x:=λ r hr x hx=>by
 obtain ⟨s,hs,rfl⟩:=List.mem_map.1 hr;obtain ⟨j,_,rfl⟩:=List.mem_map.1 hx;have hc : ∀ x∈CY b j,Wh l x:=λ x hx=>by
  obtain ⟨t,ht,rfl⟩:=List.mem_map.1 hx;rw[List.getD_eq_getElem?_getD];cases e:t[j]? with
  | none=>exact Wh.zero l
  | some y=>exact hb t ht y (zM e)
 have:=Wh.dot (ha s hs) hc
 rwa [hl s hs]at this
theorem aA {n k:Nat} {a:List (List Rat)} {D:Nat} (hs:Sq n a) (hn:n<=4) (hA : ∀ r∈B4 (D:Rat) a,∀ x∈r,Wh (k+n*n*k) x) : ∀ i,∀ r∈B4 (DI (D:Rat) i) (B1 n a i),∀ x∈r,Wh (EK k i) x
 | 0=>λ r hr x hx=>(hA r hr x hx).le (by
   show k+n*n*k<=17*k;have:n*n<=4*4:=Nat.mul_le_mul hn hn
   have:=Nat.mul_le_mul_right k this
   omega)
 | i+1=>λ r hr x hx=>by
  rw[<-mE]at hr;exact (Oj (aA hs hn hA i) (VM _ (OB hs i).r) (aA hs hn hA i) r hr x hx).le (by simp only[EK];omega)
theorem W7 {D M:Nat} (hD:D<=2^M) : ∀ i,Wh (2^i*M) (DI (D:Rat) i)
 | 0=>⟨(D:Int),by rw[DI,Rat.intCast_natCast],by rw[Nat.pow_zero,Nat.one_mul];simpa using hD⟩
 | i+1=>((W7 hD i).mul (W7 hD i)).le (by rw[Nat.pow_succ,Nat.mul_two,Nat.add_mul];exact Nat.le_refl _)
theorem sM {n i:Nat} {a:List (List Rat)} {D:Rat} (hD:0<D):(∀ r∈B4 (DI D i) (B1 n a i),BG r+BG r<=DI D i)↔DP (B1 n a i)=true:=by
 have hp:=W6 hD i;rw[sL];constructor
 ·intro h r hr
  have:=h _ (List.mem_map.2 ⟨r,hr,rfl⟩)
  rw[VK (by grind)]at this;exact (iF hp).1 this
 ·intro h r hr
  obtain ⟨s,hs,rfl⟩:=List.mem_map.1 hr;rw[VK (by grind)];exact (iF hp).2 (h s hs)
theorem PP {k:Nat} : ∀ {l:List Rat},Bs k l->Bt (l.length*(k+1)) (BG l)
 | [],_=>Bt.zero _
 | x::l,h=>by
  have h1:=PP (l:=l) λ y hy=>h y (List.mem_cons_of_mem _ hy)
  have h2:Bt k (CJ x):=by
   unfold CJ;split
   ·exact (h x List.mem_cons_self).Al
   ·exact h x List.mem_cons_self
  refine (h2.add h1).le ?_;rw[List.length_cons,Nat.succ_mul];omega
theorem NS {k:Nat} {x:Rat} (h:Bt k x):Bt k (CJ x):=by
 unfold CJ;split
 ·exact h.Al
 ·exact h
theorem yL {k:Nat} {m x:Rat} (hm:Bt k m) (hx:Bt k x):Bt k (JB m x):=by
 unfold JB;split
 ·exact NS hx
 ·exact hm
theorem US {k:Nat} {l:List Rat} (h:Bs k l):Bt k (C1 l):=by
 have : ∀ (l:List Rat) (m:Rat),Bt k m->Bs k l->Bt k (l.foldl JB m):=by
  intro l;induction l with
  | nil=>intro m hm _;exact hm
  | cons x l ih =>
   intro m hm h;exact ih _ (yL hm (h x List.mem_cons_self)) λ y hy=>h y (List.mem_cons_of_mem _ hy)
 exact this l 0 (Bt.zero k) h
theorem ZD (D:Rat) (a:Nat) : ∀ b:Nat,D^(a+b)=D^a*D^b
 | 0=>by rw[Nat.add_zero,Rat.pow_zero,Rat.mul_one]
 | b+1=>by rw[<-Nat.add_assoc,Rat.pow_succ,ZD D a b,Rat.pow_succ,Rat.mul_assoc]
def DY (D:Rat) (f:Nat->Rat):Nat->Rat
 | 0=>0
 | m+1=>DY D f m*D+f m
theorem YJ {D c:Rat} {f F:Nat->Rat} (h : ∀ j,f j=F j*(c*D^j)) : ∀ m,DY D f m*D=c*D^m*I3 F m
 | 0=>by simp only[DY,I3];grind
 | m+1=>by
  have:=YJ h m
  rw[DY,Rat.add_mul,this,h m,Rat.pow_succ,I3];grind
theorem R6 {D:Rat} {f:Nat->Rat} {d k:Nat} (hD:Bt d D) : ∀ m,(∀ j,j<m->Bt k (f j))->Bt (m*(d+k+1)) (DY D f m)
 | 0,_=>Bt.zero _
 | m+1,h=>by
  have h1:=R6 hD m λ j hj=>h j (by omega)
  refine ((h1.mul hD).add (h m (by omega))).le ?_;rw[Nat.succ_mul];omega
theorem Ni {a:List (List Rat)} {b:List Rat} {D E:Rat} (hD:0<D) (hE:0<E) (j:Nat):C1 (DK a b D E j)=QI a b j*(E*D^j):=yN (Rat.mul_pos hE (by
 induction j with
 | zero=>rw[Rat.pow_zero];decide
 | succ j ih=>rw[Rat.pow_succ];exact Rat.mul_pos ih hD)) _
theorem Nv {S:GH} {D E O:Rat} {p:Nat} (hp:1<=p) (hD:0<D) (hE:0<E) (hO:0<O) :
  (DY D (λ j=>CJ (BP (S.c.map (· * O)) (DK S.a S.b D E j))) (p+p)+BG (S.c.map (· * O))*DY D (λ j=>C1 (DK S.a S.b D E (p+j))) p)/(D^(p+p-1)*(E*O))=I3 (QH S.a S.b S.c) (p+p)+BG S.c*I3 (λ j=>QI S.a S.b (p+j)) p:=by
 have zm : ∀ j:Nat,0<D^j:=λ j=>by
  induction j with
  | zero=>rw[Rat.pow_zero];decide
  | succ j ih=>rw[Rat.pow_succ];exact Rat.mul_pos ih hD
 have h1:=YJ (D:=D) (c:=O*E) (f:=λ j=>CJ (BP (S.c.map (· * O)) (DK S.a S.b D E j))) (F:=QH S.a S.b S.c) (λ j=>by
  show CJ (BP (S.c.map (· * O)) (DK S.a S.b D E j))=_;rw[DK,XB,WD,QH,WE (show 0<=O*(E*D^j) from by have:=Rat.mul_pos hO (Rat.mul_pos hE (zm j));grind)];grind) (p+p)
 have h2:=YJ (D:=D) (c:=E*D^p) (f:=λ j=>C1 (DK S.a S.b D E (p+j))) (F:=λ j=>QI S.a S.b (p+j)) (λ j=>by
  show C1 (DK S.a S.b D E (p+j))=_;rw[Ni hD hE,ZD];grind) p
 have h3:BG (S.c.map (· * O))=BG S.c*O:=VK (by grind) _;generalize DY D (λ j=>CJ (BP (S.c.map (· * O)) (DK S.a S.b D E j))) (p+p)=u at *;generalize DY D (λ j=>C1 (DK S.a S.b D E (p+j))) p=t at *;generalize I3 (QH S.a S.b S.c) (p+p)=F at *;generalize I3 (λ j=>QI S.a S.b (p+j)) p=G at *;rw[h3];have h4:D^(p+p)=D^(p+p-1)*D:=by rw[<-Rat.pow_succ];congr 1;omega
 have h5:D^(p+p)=D^p*D^p:=ZD _ _ _;have hq:=zm (p+p-1);have hz:=zm p;generalize D^(p+p-1)=L at *;generalize D^(p+p)=M at *;generalize D^p=P at *;have k8:L*(E*O)≠0:=by
  have:=Rat.mul_pos hq (Rat.mul_pos hE hO)
  grind
 have key:(u+BG S.c*O*t)*D=(F+BG S.c*G)*(L*(E*O))*D:=by
  have e1:u*D=O*E*(L*D)*F:=by rw[h1,h4]
  have e2:t*D=E*(L*D)*G:=by rw[h2,<-h4,h5];grind
  have:(u+BG S.c*O*t)*D=u*D+BG S.c*O*(t*D):=by grind
  rw[this,e1,e2];grind
 have Oz:D≠0:=by grind
 have:=Ir Oz key
 rw[this,Rat.div_def,Rat.mul_assoc,Rat.mul_inv_cancel _ k8,Rat.mul_one]
end Go.c4

namespace Go.c4
open F
attribute [local irreducible] AA AF AR AB B7 AQ AY A7 A6 BS AP BO BW C0 BL A0 BH BZ AC A4 AL pw CD B2 CH CX CS CK CI BI B8
variable {L:Lib}
set_option maxHeartbeats 16000000
set_option maxRecDepth 8000
theorem WY {k:Nat} {x:Rat} (h:Bt k x):Bt k ((x.den:Nat):Rat):=by
 refine ⟨?_,?_⟩
 ·rw[Rat.num_natCast,Int.natAbs_natCast];exact h.2
 ·rw[Rat.den_natCast];exact Nat.one_le_two_pow
theorem tD (x:Rat):((x.den:Nat):Rat)≠0:=λ e=>by
 have:((x.den:Nat):Rat)=((0:Nat):Rat):=e
 have:=Rat.natCast_inj.1 this
 have:=x.den_pos
 omega
theorem fW (N:n7 L) {x:Rat} {k:Nat} (hx:Bt k x) (hk:k<2199023255552):Ev L 294 [.agg (eQ x)] (.agg (eQ ((x.den:Nat):Rat))):=by
 have hT:=gN N.toa7 hx hk;have n6:=C8 ((x.den:Nat):Rat);have e:eQ ((x.den:Nat):Rat)=[.bool false,.sl false ((dg x.den).map AJ),.sl false [[.int .u32 1]]]:=by
  rw[<-Rat.intCast_natCast,vN,Int.natAbs_natCast,show decide (((x.den:Nat):Int)<0)=false by simp]
 rw[e]at n6 ⊢;refine Ev.x N.KD rfl rfl ?_;(repeat' ((first|refine HR rfl ?_|apply AE|refine AD (hT) ?_)<;>conv=>whnf))
 exact AU rfl n6
theorem XT (N:n7 L) (q q':Bool) (ls:List (List Rat)) (k:Nat) (hb:Ms k ls) (hl:ls.flatten.length<=64) (pd:ls.length<=1000) (hk:k<=1000000):Ev L 295 [.sl q (GM q' ls)] (.agg (eQ (HO ls.flatten))):=by
 have hO:=JA N.toa7 1 (by omega);rw[show ((1:Int):Rat)=1 from rfl]at hO;have key : ∀ (i j:Nat) (r:List Rat) (x:Rat),ls[i]? = some r->r[j]? = some x -> ∃ S:Nat,HO ((ls.take i).flatten++r.take j)=(S:Rat)/\Bt (64*k) (S:Rat)/\HO ((ls.take i).flatten++r.take (j+1))=(S:Rat)*(((S:Rat)/((x.den:Nat):Rat)).den:Nat):=by
  intro i j r x hr hx;have bm:=(zS hx).1;have hlen:((ls.take i).flatten++r.take j).length<=64:=by
   have e:ls.flatten=(ls.take i).flatten++(r++(ls.drop (i+1)).flatten):=by
    have h1:=(zS hr);obtain ⟨h1,h2⟩:=h1;conv=>lhs;rw[<-List.take_append_drop i ls,List.flatten_append,List.drop_eq_getElem_cons h1,h2,List.flatten_cons]
   rw[e,List.length_append,List.length_append]at hl;rw[List.length_append,List.length_take];omega
  have Gf:Bs k ((ls.take i).flatten++r.take j):=λ y hy=>by
   rcases List.mem_append.1 hy with hy|hy
   ·obtain ⟨s,hs,hy⟩:=List.mem_flatten.1 hy
    exact hb s (List.mem_of_mem_take hs) y hy
   ·exact hb r (zM hr) y (List.mem_of_mem_take hy)
  obtain ⟨S,e,h1,h2,_⟩:=ZV Gf;refine ⟨S,e,⟨?_,?_⟩,?_⟩
  ·rw[Rat.num_natCast,Int.natAbs_natCast]
   exact Nat.le_trans h2 (Nat.pow_le_pow_right (by omega) (Nat.mul_le_mul_right k hlen))
  ·rw[Rat.den_natCast];exact Nat.one_le_two_pow
  ·rw[List.take_add_one,hx,Option.toList_some,<-List.append_assoc,Mb,e,ST,tE]
 refine Ev.x N.KB rfl rfl ?_;(repeat' ((first|apply AW|apply AE|refine AD (hO) ?_)<;>conv=>whnf))
 refine CW (λ i=>ls.length-i) (λ(i:Nat)=>i<=ls.length) (λ i=>[(13,.int .i64 i)]) (λ i=>[(3,3,.bx (eQ (HO (ls.take i).flatten)))]) [] [] 0 (by rw[show HO (ls.take 0).flatten=1 from rfl];exact (by (conv=>whnf);exact ⟨rfl,rfl,rfl⟩)) (by omega) ?_;intro i p1 ih;by_cases hi:i<ls.length
 ·obtain ⟨r,hr⟩ : ∃ r,ls[i]? = some r:=⟨_,zE hi⟩
  have mr:ls[(i:Int).toNat]? = some r:=hr;have pj:=hb r (zM hr);have ea:r.length<=64:=by
   have e:ls.flatten=(ls.take i).flatten++(r++(ls.drop (i+1)).flatten):=by
    obtain ⟨h1,h2⟩:=zS hr;conv=>lhs;rw[<-List.take_append_drop i ls,List.flatten_append,List.drop_eq_getElem_cons h1,h2,List.flatten_cons]
   rw[e,List.length_append,List.length_append]at hl;omega
  have ch:(ls.take (i+1)).flatten=(ls.take i).flatten++r:=by
   rw[List.take_add_one,hr,List.flatten_append];simp
  (repeat' ((first|(apply AH<;>intro hc<;>try (exfalso;omega))|apply AW|(refine BJ (by assumption) ?_ rfl ?_;omega)|apply AE)<;>conv=>whnf))
  refine CW (λ j=>r.length-j) (λ(j:Nat)=>j<=r.length) (λ j=>[(19,.int .i64 j)]) (λ j=>[(3,3,.bx (eQ (HO ((ls.take i).flatten++r.take j))))]) [] [] 0 (by rw[List.take_zero,List.append_nil];exact (by (conv=>whnf);exact ⟨rfl,rfl,rfl⟩)) (by omega) ?_;intro j r1 jh;by_cases hj:j<r.length
  ·obtain ⟨x,hx⟩ : ∃ x,r[j]? = some x:=⟨_,zE hj⟩
   have oo:r[(j:Int).toNat]? = some x:=hx;obtain ⟨S,e,hS,e2⟩:=key i j r x hr hx;have Bn:=pj.at hx;have kv:=fW N Bn (by omega);have hq:=hS.xm (WY Bn);have Cj:=fG N.toa7 hS (WY Bn) (by omega) (by omega) (tD x);have lf:=fW N hq (by omega);have hM:=M6 N.toa7 hS (WY hq) (by omega) (by omega);rw[<-e2]at hM;rw[e];generalize (S:Rat)/((x.den:Nat):Rat)=y at *;generalize ((x.den:Nat):Rat)=d at *;generalize (S:Rat)=s at *;generalize ((y.den:Nat):Rat)=d2 at *;(repeat' ((first|(apply AH<;>intro hc<;>try (exfalso;omega))|(apply AZ;omega)|(refine BJ (by assumption) ?_ rfl ?_;omega)|apply AE|refine AD (kv) ?_|refine AD (Cj) ?_|refine AD (lf) ?_|refine AD (hM) ?_)<;>conv=>whnf))
   exact BQ [] (jh (j+1) (by omega) (by omega))
  obtain rfl:j=r.length:=by omega
  clear jh;rw[List.take_of_length_le (Nat.le_refl _),<-ch];(repeat' ((first|(apply AH<;>intro hc<;>try (exfalso;omega))|(apply AZ;omega)|apply AE)<;>conv=>whnf))
  exact BQ [] (ih (i+1) (by omega) (by omega))
 obtain rfl:i=ls.length:=by omega
 clear ih;rw[List.take_of_length_le (Nat.le_refl _)];(repeat' ((first|(apply AH<;>intro hc<;>try (exfalso;omega))|apply AE)<;>conv=>whnf))
 exact AU rfl (C8 _)
theorem XU (N:n7 L) (q:Bool) (v:List Rat) (c:Rat) (k l:Nat) (hv:Bs k v) (hc:Bt l c) (hk:k<1099511627776) (hl:l<1099511627776) (hn:v.length<=1000000):Ev L 296 [.sl q (v.map eQ),.agg (eQ c)] (.sl false ((v.map (· * c)).map eQ)):=by
 refine Ev.x N.KL rfl rfl ?_;(repeat' ((first|apply AW|apply AE)<;>conv=>whnf))
 refine FF (enc:=eO) none v.length rfl rfl (by omega) ?_;(conv=>whnf)
 (repeat' (apply AW<;>conv=>whnf))
 refine CW (λ i=>v.length-i) (λ(i:Nat)=>i<=v.length) (λ i=>[(12,.int .i64 i)]) (λ i=>[(9,9,.rw 3 ((F8 ((v.map (· * c)).take i) v.length).map eO))]) [] [] 0 (by first|exact (by (conv=>whnf);exact ⟨rfl,rfl,rfl⟩)|(rw[List.take_zero,<-UP];exact (by (conv=>whnf);exact ⟨rfl,rfl,rfl⟩))) (by omega) ?_;intro i p1 ih;have ix:((v.map (· * c)).take i).length=i:=by rw[List.length_take,List.length_map];omega
 have Qz:=UO (l:=(v.map (· * c)).take i) (m:=v.length) (by omega);by_cases hi:i<v.length
 ·obtain ⟨x,hx⟩ : ∃ x,v[i]? = some x:=⟨_,zE hi⟩
  have oo:v[(i:Int).toNat]? = some x:=hx;have hy:(v.map (· * c))[i]? = some (x*c):=by rw[List.getElem?_map,hx];rfl
  have hs:=UQ (l:=(v.map (· * c)).take i) (m:=v.length) (x:=x*c) (by omega);rw[ix,<-G5 hy]at hs;have hM:=M6 N.toa7 (hv.at hx) hc (by omega) (by omega);generalize F8 ((v.map (· * c)).take i) v.length=F0 at *;generalize x*c=y at *;(repeat' ((first|(apply AH<;>intro hc<;>try (exfalso;omega))|(apply A9;omega)|(refine BJ (by assumption) ?_ rfl ?_;omega)|apply AE|refine AD (hM) ?_)<;>conv=>whnf))
  refine NR (enc:=eO) (some y) rfl (λ e=>by cases e<;>rfl) (by omega) ?_;(conv=>whnf)
  rw[hs];(repeat' ((first|(apply AZ;omega)|fail)<;>conv=>whnf))
  exact BQ [] (ih (i+1) (by omega) (by omega))
 obtain rfl:i=v.length:=by omega
 clear ih;have pe:(v.map (· * c)).length=v.length:=List.length_map _;rw[List.take_of_length_le (by omega),UN pe];(repeat' ((first|(apply AH<;>intro hc<;>try (exfalso;omega))|(refine DX (λ_=>rfl) rfl ?_ ?_;(first|rfl|simp))|apply AE)<;>conv=>whnf))
 exact AU rfl (by simp only[A1,true_and];exact MZ _)
abbrev M4 (q:Bool) (x:Rat):List AV:=rQ q q (decide (x.num<0)) (dg x.num.natAbs) (dg x.den)
theorem yD (N:a7 L) (q:Bool) {x:Rat} {k:Nat} (hx:Bt k x) (hk:k<2199023255552):Ev L 97 [.agg (M4 q x)] (.int .i64 (o9 x.num)):=by
 have hs:=hx.sm hk;have:=gK N (decide (x.num<0)) q q (dg x.num.natAbs) (dg x.den) (hs.1.le (by omega)) (hs.2.le (by omega))
 rwa [EM]at this
theorem fQ (N:a7 L) (q:Bool) {x y:Rat} {k l:Nat} (hx:Bt k x) (hy:Bt l y) (hk:k<2199023255552) (hl:l<2199023255552):Ev L 99 [.agg (eQ x),.agg (M4 q y)] (.agg (eQ (x*y))):=by
 have h1:=hx.sm hk;have h2:=hy.sm hl;have:=gJ N 68719476736 (by omega) (decide (x.num<0)) (decide (y.num<0)) false false q q (dg x.num.natAbs) (dg x.den) (dg y.num.natAbs) (dg y.den) h1.1 h1.2 h2.1 h2.2
 rwa [EM,EM]at this
theorem fY (N:n7 L) (q1 q2 qb:Bool) (a b:List Rat) (k l:Nat) (hl:a.length=b.length) (ha:Bs k a) (hb:Bs l b) (hn:a.length<=64) (hk:k<=1000000000) (gx:l<=1000000000):Ev L 297 [.sl q1 (a.map eQ),.sl q2 (b.map (M4 qb))] (.agg (eQ (BP a b))):=by
 have hO:=JA N.toa7 0 (by omega);rw[show ((0:Int):Rat)=0 from rfl]at hO;refine Ev.x N.KE rfl rfl ?_;(repeat' ((first|apply AW|apply AE|refine AD (hO) ?_)<;>conv=>whnf))
 refine CW (λ i=>a.length-i) (λ(i:Nat)=>i<=a.length) (λ i=>[(10,.int .i64 i)]) (λ i=>[(5,5,.bx (eQ (BP (a.take i) (b.take i))))]) [] [] 0 (by rw[show BP (a.take 0) (b.take 0)=0 from rfl];exact (by (conv=>whnf);exact ⟨rfl,rfl,rfl⟩)) (by omega) ?_;intro i p1 ih;by_cases hi:i<a.length
 ·obtain ⟨x,hx⟩ : ∃ x,a[i]? = some x:=⟨_,zE hi⟩
  obtain ⟨y,hy⟩ : ∃ y,b[i]? = some y:=⟨_,zE (by omega)⟩;have oo:a[(i:Int).toNat]? = some x:=hx;have sv:b[(i:Int).toNat]? = some y:=hy;have lj:=UJ N.toa7 (ha.at hx) (by omega);have xv:=yD N.toa7 qb (hb.at hy) (by omega);have hM:=fQ N.toa7 qb (ha.at hx) (hb.at hy) (by omega) (by omega);have hd:Bt (64*(k+l+1)) (BP (a.take i) (b.take i)):=by
   refine ((ha.take i).dot (hb.take i)).le (Nat.mul_le_mul_right _ ?_);rw[List.length_take];omega
  have hA:=O1 N.toa7 hd ((ha.at hx).mul (hb.at hy)) (by omega) (by omega);rw[<-UD hx hy]at hA;have hz:x=0\/y=0->BP (a.take i) (b.take i)=BP (a.take (i+1)) (b.take (i+1)):=λ h=>by
   rw[UD hx hy];rcases h with h|h<;>rw[h]<;>grind
  by_cases h1:x=0
  ·have s1:o9 x.num=0:=PL.2 h1
   rw[s1]at lj;rw[hz (Or.inl h1)];clear hA hz hd;(repeat' ((first|(apply AH<;>intro hc<;>try (exfalso;omega))|(apply AZ;omega)|(refine BJ (by assumption) ?_ rfl ?_;omega)|apply AE|refine AD (lj) ?_)<;>conv=>whnf))
   exact BQ [] (ih (i+1) (by omega) (by omega))
  ·have s1:o9 x.num≠0:=λ h=>h1 (PL.1 h)
   generalize o9 x.num=g1 at *;by_cases h2:y=0
   ·have s2:o9 y.num=0:=PL.2 h2
    rw[s2]at xv;rw[hz (Or.inr h2)];clear hA hz hd;(repeat' ((first|(apply AH<;>intro hc<;>try (exfalso;omega))|(apply AZ;omega)|(refine BJ (by assumption) ?_ rfl ?_;omega)|apply AE|refine AD (lj) ?_|refine AD (xv) ?_)<;>conv=>whnf))
    exact BQ [] (ih (i+1) (by omega) (by omega))
   ·have s2:o9 y.num≠0:=λ h=>h2 (PL.1 h)
    generalize o9 y.num=g2 at *;clear hz hd;generalize BP (a.take i) (b.take i)=w at *;generalize x*y=p at *;(repeat' ((first|(apply AH<;>intro hc<;>try (exfalso;omega))|(apply AZ;omega)|(refine BJ (by assumption) ?_ rfl ?_;omega)|apply AE|refine AD (lj) ?_|refine AD (xv) ?_|refine AD (hM) ?_|refine AD (hA) ?_)<;>conv=>whnf))
    exact BQ [] (ih (i+1) (by omega) (by omega))
 obtain rfl:i=a.length:=by omega
 clear ih;rw[W8 rfl];(repeat' ((first|(apply AH<;>intro hc<;>try (exfalso;omega))|apply AE)<;>conv=>whnf))
 exact AU rfl (C8 _)
theorem fX (N:n7 L) (q1 q2:Bool) (a b:List Rat) (k l:Nat) (hl:a.length=b.length) (ha:Bs k a) (hb:Bs l b) (hn:a.length<=64) (hk:k<=1000000000) (gx:l<=1000000000):Ev L 297 [.sl q1 (a.map eQ),.sl q2 (b.map eQ)] (.agg (eQ (BP a b))):=fY N q1 q2 false a b k l hl ha hb hn hk gx
theorem wZ (N:n7 L) (q1 q2 q3:Bool) (a:List (List Rat)) (v:List Rat) (n k l:Nat) (hs:Sq n a) (hv:v.length=n) (ha:Ms k a) (hb:Bs l v) (hn:n<=4) (hk:k<=1000000000) (hl:l<=1000000000):Ev L 298 [.sl q1 (GM q3 a),.sl q2 (v.map eQ)] (.sl false ((FS a v).map eQ)):=by
 have et:=hs.l;have pe:(FS a v).length=n:=by rw[jS];exact et
 refine Ev.x N.KA rfl rfl ?_;(repeat' ((first|apply AW|apply AE)<;>conv=>whnf))
 refine FF (enc:=eO) none n rfl (by omega) (by omega) ?_;(conv=>whnf)
 (repeat' (apply AW<;>conv=>whnf))
 refine CW (λ i=>n-i) (λ(i:Nat)=>i<=n) (λ i=>[(12,.int .i64 i)]) (λ i=>[(9,9,.rw 3 ((F8 ((FS a v).take i) n).map eO))]) [] [] 0 (by first|exact (by (conv=>whnf);exact ⟨rfl,rfl,rfl⟩)|(rw[List.take_zero,<-UP];exact (by (conv=>whnf);exact ⟨rfl,rfl,rfl⟩))) (by omega) ?_;intro i p1 ih;have ix:((FS a v).take i).length=i:=by rw[List.length_take];omega
 have Qz:=UO (l:=(FS a v).take i) (m:=n) (by omega);by_cases hi:i<n
 ·obtain ⟨r,hr⟩ : ∃ r,a[i]? = some r:=⟨_,zE (by omega)⟩
  have mr:a[(i:Int).toNat]? = some r:=hr;have ea:=hs.at hr;have hy:(FS a v)[i]? = some (BP r v):=by rw[FS,List.getElem?_map,hr];rfl
  have k6:=UQ (l:=(FS a v).take i) (m:=n) (x:=BP r v) (by omega);rw[ix,<-G5 hy]at k6;have hD:=λ q q'=>fX N q q' r v k l (by omega) (ha.at hr) hb (by omega) hk hl
  generalize F8 ((FS a v).take i) n=F0 at *;generalize BP r v=y at *;(repeat' ((first|(apply AH<;>intro hc<;>try (exfalso;omega))|(apply A9;omega)|(refine BJ (by assumption) ?_ rfl ?_;omega)|apply AE|refine AD (hD _ _) ?_)<;>conv=>whnf))
  refine NR (enc:=eO) (some y) rfl (λ e=>by cases e<;>rfl) (by omega) ?_;(conv=>whnf)
  rw[k6];(repeat' ((first|(apply AZ;omega)|fail)<;>conv=>whnf))
  exact BQ [] (ih (i+1) (by omega) (by omega))
 obtain rfl:i=n:=by omega
 clear ih;rw[List.take_of_length_le (by omega),UN pe];(repeat' ((first|(apply AH<;>intro hc<;>try (exfalso;omega))|apply AE)<;>conv=>whnf))
 refine DX (enc:=eQ) (λ_=>rfl) rfl pe.symm ?_;(conv=>whnf)
 exact AU rfl (by simp only[A1,true_and];exact MZ _)
end Go.c4

namespace Go.c4
open F
attribute [local irreducible] AA AF AR AB B7 AQ AY A7 A6 BS AP BO BW C0 BL A0 BH BZ AC A4 AL pw CD B2 CH CX CS CK CI BI B8
variable {L:Lib} (n:Nt)
set_option maxHeartbeats 1000000
end Go.c4

namespace Go.c4
open F
attribute [local irreducible] AA AF AR AB B7 AQ AY A7 A6 BS AP BO BW C0 BL A0 BH BZ AC A4 AL pw CD B2 CH CX CS CK CI BI B8
variable {L:Lib}
set_option maxHeartbeats 4000000
end Go.c4

namespace Go.c4
open F
attribute [local irreducible] AA AF AR AB B7 AQ AY A7 A6 BS AP BO BW C0 BL A0 BH BZ AC A4 AL pw CD B2 CH CX CS CK CI BI B8
variable {L:Lib}
variable (b a:List Int) (d c:Wd)
variable {b a d c}
set_option maxHeartbeats 4000000
end Go.c4

namespace Go.c4
open F
attribute [local irreducible] AA AF AR AB B7 AQ AY A7 A6 BS AP BO BW C0 BL A0 BH BZ AC A4 AL pw CD B2 CH CX CS CK CI BI B8
variable {L:Lib}
set_option maxHeartbeats 8000000
end Go.c4

namespace Go.c4
open F
attribute [local irreducible] AA AF AR AB B7 AQ AY A7 A6 BS AP BO BW C0 BL A0 BH BZ AC A4 AL pw CD B2 CH CX CS CK CI BI B8
attribute [local irreducible] aR
variable {L:Lib}
set_option maxHeartbeats 8000000
end Go.c4

namespace Go.c4
open F
attribute [local irreducible] AA AF AR AB B7 AQ AY A7 A6 BS AP BO BW C0 BL A0 BH BZ AC A4 AL pw CD B2 CH CX CS CK CI BI B8
variable {L:Lib}
set_option maxHeartbeats 16000000
set_option maxRecDepth 8000
theorem lO {l:List Rat} {i:Nat} {x:Rat} (h:l[i]? = some x):BG (l.take (i+1))=BG (l.take i)+CJ x:=by rw[G5 h,lN]
theorem gA (N:n7 L) (q:Bool) (v:List Rat) (k:Nat) (hv:Bs k v) (hn:v.length<=1000) (hk:k<=1000000000):Ev L 300 [.sl q (v.map eQ)] (.agg (eQ (BG v))):=by
 have hO:=JA N.toa7 0 (by omega);rw[show ((0:Int):Rat)=0 from rfl]at hO;refine Ev.x N.KM rfl rfl ?_;(repeat' ((first|apply AW|apply AE|refine AD (hO) ?_)<;>conv=>whnf))
 refine CW (λ i=>v.length-i) (λ(i:Nat)=>i<=v.length) (λ i=>[(9,.int .i64 i)]) (λ i=>[(3,3,.bx (eQ (BG (v.take i))))]) [] [] 0 (by rw[show BG (v.take 0)=0 from rfl];exact (by (conv=>whnf);exact ⟨rfl,rfl,rfl⟩)) (by omega) ?_;intro i p1 ih;by_cases hi:i<v.length
 ·obtain ⟨x,hx⟩ : ∃ x,v[i]? = some x:=⟨_,zE hi⟩
  have oo:v[(i:Int).toNat]? = some x:=hx;have hA:=UF N.tov5 (hv.at hx) (by omega);have hz:Bt (1000*(k+1)) (BG (v.take i)):=(PP (hv.take i)).le (Nat.mul_le_mul_right _ (by rw[List.length_take];omega));have hP:=O1 N.toa7 hz (NS (hv.at hx)) (by omega) (by omega);rw[<-lO hx]at hP;generalize BG (v.take i)=w at *;generalize CJ x=y at *;(repeat' ((first|(apply AH<;>intro hc<;>try (exfalso;omega))|(apply AZ;omega)|(refine BJ (by assumption) ?_ rfl ?_;omega)|apply AE|refine AD (hA) ?_|refine AD (hP) ?_)<;>conv=>whnf))
  exact BQ [] (ih (i+1) (by omega) (by omega))
 obtain rfl:i=v.length:=by omega
 clear ih;rw[List.take_of_length_le (Nat.le_refl _)];(repeat' ((first|(apply AH<;>intro hc<;>try (exfalso;omega))|apply AE)<;>conv=>whnf))
 exact AU rfl (C8 _)
theorem yP {l:List Rat} {i:Nat} {x:Rat} (h:l[i]? = some x):C1 (l.take (i+1))=JB (C1 (l.take i)) x:=by rw[G5 h,yO]
theorem VI {x y:Rat}:0<o9 (x-y).num↔y<x:=by
 have h:=ZW (x-y).num;have e1:(x-y).num<0↔x<y:=by rw[Y4];constructor<;>intro h<;>grind
 have e2:(x-y).num=0↔x=y:=by rw[Rat.num_eq_zero];constructor<;>intro h<;>grind
 rcases h with ⟨h1,h2⟩|⟨h1,h2⟩|⟨h1,h2⟩
 ·have:=e1.1 h2
  rw[h1];constructor
  ·intro h;omega
  ·intro h;grind
 ·have:=e2.1 h2
  rw[h1];constructor
  ·intro h;omega
  ·intro h;grind
 ·have h3 : ¬ x<y:=λ h=>by have:=e1.2 h;omega
  have h4 : ¬ x=y:=λ h=>by have:=e2.2 h;omega
  rw[h1];constructor
  ·intro _;grind
  ·intro _;omega
theorem xC (N:n7 L) (q:Bool) (v:List Rat) (k:Nat) (hv:Bs k v) (hn:v.length<=1000000) (hk:k<=1000000000000):Ev L 301 [.sl q (v.map eQ)] (.agg (eQ (C1 v))):=by
 have hO:=JA N.toa7 0 (by omega);rw[show ((0:Int):Rat)=0 from rfl]at hO;refine Ev.x N.KH rfl rfl ?_;(repeat' ((first|apply AW|apply AE|refine AD (hO) ?_)<;>conv=>whnf))
 refine CW (λ i=>v.length-i) (λ(i:Nat)=>i<=v.length) (λ i=>[(10,.int .i64 i)]) (λ i=>[(3,3,.bx (eQ (C1 (v.take i))))]) [] [] 0 (by rw[show C1 (v.take 0)=0 from rfl];exact (by (conv=>whnf);exact ⟨rfl,rfl,rfl⟩)) (by omega) ?_;intro i p1 ih;by_cases hi:i<v.length
 ·obtain ⟨x,hx⟩ : ∃ x,v[i]? = some x:=⟨_,zE hi⟩
  have oo:v[(i:Int).toNat]? = some x:=hx;have hA:=UF N.tov5 (hv.at hx) (by omega);have hC:=XM N.too0 (NS (hv.at hx)) (US (hv.take i)) (by omega) (by omega);have hg:=VI (x:=CJ x) (y:=C1 (v.take i));have hs:C1 (v.take (i+1))=if C1 (v.take i)<CJ x then CJ x else C1 (v.take i):=yP hx
  by_cases h:C1 (v.take i)<CJ x
  ·rw[if_pos h]at hs
   have h1:=hg.2 h;rw[<-hs]at hA hC h1;generalize o9 (C1 (v.take (i+1))-C1 (v.take i)).num=g at *;(repeat' ((first|(apply AH<;>intro hc<;>try (exfalso;omega))|(apply AZ;omega)|(refine BJ (by assumption) ?_ rfl ?_;omega)|apply AE|refine AD (hA) ?_|refine AD (hC) ?_)<;>conv=>whnf))
   exact BQ [] (ih (i+1) (by omega) (by omega))
  ·rw[if_neg h]at hs
   have h1 : ¬ 0<o9 (CJ x-C1 (v.take i)).num:=λ e=>h (hg.1 e)
   rw[<-hs]at hC h1 ⊢;clear hg h hs;generalize o9 (CJ x-C1 (v.take (i+1))).num=g at *;generalize CJ x=y at *;(repeat' ((first|(apply AH<;>intro hc<;>try (exfalso;omega))|(apply AZ;omega)|(refine BJ (by assumption) ?_ rfl ?_;omega)|apply AE|refine AD (hA) ?_|refine AD (hC) ?_)<;>conv=>whnf))
   exact BQ [] (ih (i+1) (by omega) (by omega))
 obtain rfl:i=v.length:=by omega
 clear ih;rw[List.take_of_length_le (Nat.le_refl _)];(repeat' ((first|(apply AH<;>intro hc<;>try (exfalso;omega))|apply AE)<;>conv=>whnf))
 exact AU rfl (C8 _)
theorem xA (N:n7 L) (q q':Bool) (a:List (List Rat)) (D:Rat) (n k l:Nat) (hs:Sq n a) (ha:Ms k a) (hD:Bt l D) (hn:n<=16) (hk:k<=1000000000) (hl:l<=1000000000):Ev L 302 [.sl q (GM q' a),.agg (eQ D)] (.bool (decide (∀ r∈a,BG r+BG r<=D))):=by
 have et:=hs.l;refine Ev.x N.KC rfl rfl ?_;(repeat' ((first|apply AW|apply AE)<;>conv=>whnf))
 refine CW (λ i=>n-i) (λ(i:Nat)=>i<=n /\ ∀ r∈a.take i,BG r+BG r<=D) (λ i=>[(10,.int .i64 i)]) (λ_=>[]) [] [] 0 (by (conv=>whnf);exact ⟨rfl,rfl,rfl⟩) ⟨by omega,λ r hr=>by cases hr⟩ ?_;intro i ⟨p1,p2⟩ ih;by_cases hi:i<n
 ·obtain ⟨r,hr⟩ : ∃ r,a[i]? = some r:=⟨_,zE (by omega)⟩
  have mr:a[(i:Int).toNat]? = some r:=hr;have ea:=hs.at hr;have hT:=λ q=>gA N q r k (ha.at hr) (by omega) hk
  have hz:Bt (16*(k+1)) (BG r):=(PP (ha.at hr)).le (Nat.mul_le_mul_right _ (by omega));have hP:=O1 N.toa7 hz hz (by omega) (by omega);have hC:=XM N.too0 (hz.add hz) hD (by omega) (by omega);have hg:=VI (x:=BG r+BG r) (y:=D);by_cases h:D<BG r+BG r
  ·have wh : ¬ ∀ r∈a,BG r+BG r<=D:=λ e=>by
    have:=e r (zM hr)
    grind
   have:=hg.2 h
   rw[decide_eq_false wh];clear wh p2 ih hz h hg;generalize o9 (BG r+BG r-D).num=g at *;generalize BG r+BG r=w at *;generalize BG r=z at *;(repeat' ((first|(apply AH<;>intro hc<;>try (exfalso;omega))|(refine BJ (by assumption) ?_ rfl ?_;omega)|apply AE|refine AD (hT _) ?_|refine AD (hP) ?_|refine AD (hC) ?_)<;>conv=>whnf))
   exact L6 rfl
  ·have Ex : ∀ r∈a.take (i+1),BG r+BG r<=D:=λ s hs=>by
    rw[G5 hr]at hs;rcases List.mem_append.1 hs with hs|hs
    ·exact p2 s hs
    ·obtain rfl:=List.mem_singleton.1 hs
     grind
   have : ¬ 0<o9 (BG r+BG r-D).num:=λ e=>h (hg.1 e)
   clear p2 hz h hg;generalize o9 (BG r+BG r-D).num=g at *;generalize BG r+BG r=w at *;generalize BG r=z at *;(repeat' ((first|(apply AH<;>intro hc<;>try (exfalso;omega))|(apply AZ;omega)|(refine BJ (by assumption) ?_ rfl ?_;omega)|apply AE|refine AD (hT _) ?_|refine AD (hP) ?_|refine AD (hC) ?_)<;>conv=>whnf))
   exact BQ [] (ih (i+1) (by omega) ⟨by omega,Ex⟩)
 obtain rfl:i=n:=by omega
 clear ih;rw[List.take_of_length_le (by omega)]at p2;rw[decide_eq_true p2];(repeat' ((first|(apply AH<;>intro hc<;>try (exfalso;omega))|apply AE)<;>conv=>whnf))
 exact L6 rfl
theorem jJ {α:Type} {a b:List α} {j:Nat} {y:α} (hl:a.length=b.length) (hy:a[j]? = some y):(a.take j++b.drop j).set j y=a.take (j+1)++b.drop (j+1):=by
 have h:=(zS hy).1;rw[List.set_append_right _ _ (by rw[List.length_take];omega),List.length_take,Nat.min_eq_left (by omega),Nat.sub_self,List.drop_eq_getElem_cons (by omega),List.set_cons_zero,List.take_add_one,hy,Option.toList_some,List.append_assoc];rfl
def GK (Q:List (List Rat)) (n j:Nat):List (Option (Nat × List (List AV))):=Q.map λ r=>some (3,(F8 (r.take j) n).map eO)
def IR (Q:List (List Rat)) (n j m:Nat):List (Option (Nat × List (List AV))):=(GK Q n (j+1)).take m++(GK Q n j).drop m
theorem M0 (Q:List (List Rat)) (n j:Nat):(GK Q n j).length=Q.length:=by simp [GK]
theorem sJ (Q:List (List Rat)) (n j:Nat):IR Q n j 0=GK Q n j:=by simp [IR]
theorem sG (Q:List (List Rat)) (n j:Nat):IR Q n j Q.length=GK Q n (j+1):=by
 rw[IR,List.take_of_length_le (by rw[M0];exact Nat.le_refl _),List.drop_of_length_le (by rw[M0];exact Nat.le_refl _),List.append_nil]
theorem sH {Q:List (List Rat)} {n j m:Nat} (h:m<=Q.length):(IR Q n j m).length=Q.length:=by
 rw[IR,List.length_append,List.length_take,List.length_drop,M0,M0];omega
theorem sF {Q:List (List Rat)} {n j m:Nat} {r:List Rat} (hr:Q[m]? = some r):(IR Q n j m)[m]? = some (some (3,(F8 (r.take j) n).map eO)):=by
 have h:=(zS hr).1;rw[IR,List.getElem?_append_right (by rw[List.length_take,M0];omega),List.length_take,M0,Nat.min_eq_left (by omega),Nat.sub_self,List.getElem?_drop,Nat.add_zero,GK,List.getElem?_map,hr];rfl
theorem sI {Q:List (List Rat)} {n j m:Nat} {r:List Rat} (hr:Q[m]? = some r):(IR Q n j m).set m (some (3,(F8 (r.take (j+1)) n).map eO))=IR Q n j (m+1):=by
 have h:=(zS hr).1;exact jJ (by rw[M0,M0]) (by rw[GK,List.getElem?_map,hr];rfl)
theorem oR {R:List (Option (Nat × List (List AV)))} {i z:Nat} {es:List (List AV)} {K:Nat->List (List AV)->Prop} (h:R[i]? = some (some (z,es))) (hk:K z es):B2 R i K:=by
 unfold B2;exact ⟨z,es,h,hk⟩
theorem sK {Q:List (List Rat)} {n:Nat} (h : ∀ r∈Q,r.length=n):GK Q n n=FJ 3 eQ Q:=by
 refine List.map_congr_left λ r hr => ?_
 have:=h r hr
 rw[List.take_of_length_le (by omega),UN this]
theorem xF (N:n7 L) (q q':Bool) (a:List (List Rat)) (n k:Nat) (hs:Sq n a) (ha:Ms k a) (hn:n<=4) (hk:k<=1000000000):Ev L 299 [.sl q (GM q' a)] (.sl false (eM (FI a a n))):=by
 have et:=hs.l;have xq:Sq n (FI a a n):=Sq.mul hs.l a;have Cn : ∀ (i:Nat) (r:List Rat),a[i]? = some r->(FI a a n)[i]? = some (ER r a n):=λ i r hr=>by rw[FI,List.getElem?_map,hr];rfl
 have Ar : ∀ (j:Nat) (r:List Rat),j<n->(ER r a n)[j]? = some (BP r (CY a j)):=λ j r hj=>by rw[ER,List.getElem?_map,List.getElem?_range hj];rfl
 have Co:=xq.l;have Aq:=xq.r;generalize FI a a n=Q at *;refine Ev.x N.KI rfl rfl ?_;(repeat' ((first|apply AW|apply AE)<;>conv=>whnf))
 unfold CS;refine ⟨⟨by omega,by omega,by simp only[D6];omega,by omega⟩,?_⟩;rw[Int.toNat_natCast,et];(conv=>whnf)
 skip
 have mn:=M0 Q n 0;have Ao : ∀ i,i<n->(GK Q n 0)[i]? = some (some (3,(List.replicate n (none:Option Rat)).map eO)):=λ i hi=>by
  rw[GK,List.getElem?_map,zE (by omega),Option.map_some,List.take_zero,UP]
 refine CW (λ i=>n-i) (λ(i:Nat)=>i<=n) (λ i=>[(15,.int .i64 i)]) (λ i=>[(13,13,.mx (fz none ((GK Q n 0).take i) n))]) [] [] 0 (by first|exact (by (conv=>whnf);exact ⟨rfl,rfl,rfl⟩)|(rw[List.take_zero,show fz (none:Option (Nat × List (List AV))) [] n=List.replicate n none by simp [fz]];exact (by (conv=>whnf);exact ⟨rfl,rfl,rfl⟩))) (by omega) ?_;intro i p1 ih;have ix:((GK Q n 0).take i).length=i:=by rw[List.length_take];omega
 have ch:=YE (z:=(none:Option (Nat × List (List AV)))) (l:=(GK Q n 0).take i) (m:=n) (by omega);by_cases hi:i<n
 ·have lq:=YF (z:=(none:Option (Nat × List (List AV)))) (x:=some (3,(List.replicate n (none:Option Rat)).map eO)) (l:=(GK Q n 0).take i) (m:=n) (by omega)
  rw[ix,<-G5 (Ao i hi)]at lq;generalize fz (none:Option (Nat × List (List AV))) ((GK Q n 0).take i) n=J at *;(repeat' ((first|(apply AH<;>intro hc<;>try (exfalso;omega))|apply AE)<;>conv=>whnf))
  refine FF (enc:=eO) none n rfl rfl (by omega) ?_;(conv=>whnf)
  (repeat' ((first|(apply A9;omega)|fail)<;>conv=>whnf))
  unfold AR CH;refine ⟨by simp,by omega,?_⟩;(conv=>whnf)
  rw[show 0+((i:Int)).toNat=i by omega,lq];(repeat' ((first|(apply AZ;omega)|fail)<;>conv=>whnf))
  exact BQ [] (ih (i+1) (by omega) (by omega))
 have ei:i=n:=by omega
 clear ih ch;rw[ei,List.take_of_length_le (by omega),YD (by omega)];(repeat' ((first|(apply AH<;>intro hc<;>try (exfalso;omega))|apply AE)<;>conv=>whnf))
 refine FF (enc:=eO) none n rfl rfl (by omega) ?_;(conv=>whnf)
 skip
 refine FZ (λ j _=>n-j) (λ(j:Nat) (C:List (Option Rat))=>j<=n/\C.length=n) (λ j _=>[(27,.int .i64 j)]) (λ j C=>[(25,25,.rw 3 (C.map eO)),(13,13,.mx (GK Q n j))]) [] [] 0 (List.replicate n none) (by (conv=>whnf);exact ⟨rfl,rfl,rfl⟩) ⟨by omega,by simp⟩ ?_;intro j C ⟨r1,r2⟩ jh;by_cases hj:j<n
 ·have n6:(CY a j).length=n:=by rw[sD];exact et
  have Pz:((CY a j).map some).length=n:=by rw[List.length_map];exact n6
  (repeat' ((first|(apply AH<;>intro hc<;>try (exfalso;omega))|apply AE)<;>conv=>whnf))
  refine CW (λ i=>n-i) (λ(i:Nat)=>i<=n) (λ i=>[(31,.int .i64 i)]) (λ i=>[(25,25,.rw 3 ((((CY a j).map some).take i++C.drop i).map eO))]) [] [] 0 (by rw[List.take_zero,List.drop_zero,List.nil_append];exact (by (conv=>whnf);exact ⟨rfl,rfl,rfl⟩)) (by omega) ?_;intro i2 s1 kh;have pe:(((CY a j).map some).take i2++C.drop i2).length=n:=by rw[List.length_append,List.length_take,List.length_drop];omega
  by_cases gf:i2<n
  ·obtain ⟨r,hr⟩ : ∃ r,a[i2]? = some r:=⟨_,zE (by omega)⟩
   have ea:=hs.at hr;obtain ⟨x,hx⟩ : ∃ x,r[j]? = some x:=⟨_,zE (by omega)⟩;have mr:a[(i2:Int).toNat]? = some r:=hr;have oo:r[(j:Int).toNat]? = some x:=hx;have Qb:((CY a j).map some)[i2]? = some (some x):=by
    rw[List.getElem?_map,CY,List.getElem?_map,hr];simp only[Option.map_some,List.getD_eq_getElem?_getD,hx,Option.getD_some]
   have k6:=jJ (a:=(CY a j).map some) (b:=C) (by omega) Qb;generalize ((CY a j).map some).take i2++C.drop i2=W at *;(repeat' ((first|(apply AH<;>intro hc<;>try (exfalso;omega))|(apply A9;omega)|(refine BJ (by assumption) ?_ rfl ?_;omega)|apply AE)<;>conv=>whnf))
   refine NR (enc:=eO) (some x) rfl (λ e=>by cases e<;>rfl) (by omega) ?_;(conv=>whnf)
   rw[k6];(repeat' ((first|(apply AZ;omega)|fail)<;>conv=>whnf))
   exact BQ [] (kh (i2+1) (by omega) (by omega))
  obtain rfl:i2=n:=by omega
  clear kh pe;rw[List.take_of_length_le (by omega),List.drop_of_length_le (by omega),List.append_nil,show ((CY a j).map some).map eO=(CY a j).map eQ by rw[List.map_map];rfl];(repeat' ((first|(apply AH<;>intro hc<;>try (exfalso;omega))|apply AE)<;>conv=>whnf))
  refine CW (λ i=>i2-i) (λ(i:Nat)=>i<=i2) (λ i=>[(46,.int .i64 i)]) (λ i=>[(13,13,.mx (IR Q i2 j i))]) [] [] 0 (by rw[sJ];exact (by (conv=>whnf);exact ⟨rfl,rfl,rfl⟩)) (by omega) ?_;intro i3 s2 lh;have pe:=sH (Q:=Q) (n:=i2) (j:=j) (m:=i3) (by omega);by_cases mj:i3<i2
  ·obtain ⟨r,hr⟩ : ∃ r,a[i3]? = some r:=⟨_,zE (by omega)⟩
   have ea:=hs.at hr;have mr:a[(i3:Int).toNat]? = some r:=hr;have hq:=Cn i3 r hr;have iu:=sF (n:=i2) (j:=j) hq;have jo:=sI (n:=i2) (j:=j) hq;have Hl:=Ar j r hj;have zn:(ER r a i2).length=i2:=Aq _ (zM hq);have Hd:((ER r a i2).take j).length=j:=by rw[List.length_take];omega
   have lq:=UQ (l:=(ER r a i2).take j) (m:=i2) (x:=BP r (CY a j)) (by omega);rw[Hd,<-G5 Hl]at lq;have ch:=UO (l:=(ER r a i2).take j) (m:=i2) (by omega);rw[<-lq]at jo;have hD:=λ q q'=>fX N q q' r (CY a j) k k (by omega) (ha.at hr) (Ms.An ha j) (by omega) hk hk
   clear hq Hl lq Hd zn;generalize F8 ((ER r a i2).take j) i2=W at *;generalize BP r (CY a j)=y at *;generalize IR Q i2 j i3=R0 at *;(repeat' ((first|(apply AH<;>intro hc<;>try (exfalso;omega))|(apply A9;omega)|apply AE)<;>conv=>whnf))
   refine bF (r:=some (3,W.map eO)) (by rw[Nat.zero_add,Int.toNat_natCast];exact iu) ?_;(conv=>whnf)
   (repeat' ((first|(refine BJ (by assumption) ?_ rfl ?_;omega)|fail)<;>conv=>whnf))
   refine DX (enc:=eQ) (λ_=>rfl) rfl n6.symm ?_;(conv=>whnf)
   (repeat' (refine AD (hD _ _) ?_<;>conv=>whnf))
   refine A9 (by rw[List.length_map];omega) ?_;(conv=>whnf)
   skip
   refine oR (z:=3) (es:=W.map eO) (by rw[Nat.zero_add,Int.toNat_natCast];exact iu) ?_;(conv=>whnf)
   refine NR (enc:=eO) (some y) rfl (λ e=>by cases e<;>rfl) (by omega) ?_;(conv=>whnf)
   unfold CX;refine ⟨by rw[List.length_map,List.length_map,List.length_set],?_⟩;rw[show 0+((i3:Int)).toNat=i3 by omega,jo];(conv=>whnf)
   (repeat' ((first|(apply AZ;omega)|fail)<;>conv=>whnf))
   exact BQ [] (lh (i3+1) (by omega) (by omega))
  obtain rfl:i3=i2:=by omega
  clear lh pe;have rp:=sG Q i3 j;rw[Co]at rp;rw[rp];(repeat' ((first|(apply AH<;>intro hc<;>try (exfalso;omega))|(apply AZ;omega)|apply AE)<;>conv=>whnf))
  rw[show (CY a j).map eQ=((CY a j).map some).map eO by rw[List.map_map];rfl];exact BQ [] (jh (j+1) ((CY a j).map some) (by omega) ⟨by omega,by rw[List.length_map];exact n6⟩)
 have ej:j=n:=by omega
 clear jh;rw[ej,sK Aq];(repeat' ((first|(apply AH<;>intro hc<;>try (exfalso;omega))|apply AE)<;>conv=>whnf))
 refine TG (λ_=>rfl) rfl (by omega) ?_;(conv=>whnf)
 exact AU rfl (cO Q)
abbrev MG (q:Bool) (R:List (List Rat)) (D:Rat) (p:Int) (T:Rat):List AV:=[.sl false (GM q R)]++eQ D++[.int .i64 p]++eQ T
theorem WQ (R:List (List Rat)) (D:Rat) (p:Int) (T:Rat) (e:Int):A1 (.j4 [.agg (MG false R D p T),.int .i64 e]):=by
 have h1:=WR R;have h2:=C8 D;have h3:=C8 T;simp only[A1,CM,true_and,and_true,MG,List.cons_append,List.nil_append]at h1 h2 h3 ⊢;exact ⟨h1,h2.1,h2.2,h3.1,h3.2⟩
theorem U7 {i:Nat} (h:i<=6):2^i<=64/\(2^i=64->i=6)/\1<=2^i:=by
 obtain rfl|rfl|rfl|rfl|rfl|rfl|rfl:i=0\/i=1\/i=2\/i=3\/i=4\/i=5\/i=6:=by omega
 all_goals decide
theorem ZE {D:Rat} {d:Nat} (h:Bt d D) : ∀ j:Nat,Bt (j*d) (D^j)
 | 0=>by rw[Rat.pow_zero];exact Bt.one _
 | j+1=>by
  rw[Rat.pow_succ];exact ((ZE h j).mul h).le (by rw[Nat.succ_mul];omega)
theorem UZ {S M:Nat} (h:S<=2^M):Bt M (S:Rat):=by
 refine ⟨?_,?_⟩
 ·rw[Rat.num_natCast,Int.natAbs_natCast];exact h
 ·rw[Rat.den_natCast];exact Nat.one_le_two_pow
theorem U0 {S:Nat} (h:0<S):(0:Rat)<(S:Rat):=by
 have:=Rat.natCast_lt_natCast.2 h
 exact this
theorem fZ (N:n7 L) (q q':Bool) (a:List (List Rat)) (n k:Nat) (hs:Sq n a) (ha:Ms k a) (hn:n<=4) (hk:k<=100000) :
  ∃ v,Ev L 303 [.sl q (GM q' a)] v/\((∃ i,i<=6/\H2 n a i/\v = .j4 [.agg (MG false (B4 (HO a.flatten) a) (HO a.flatten) ((2^i:Nat):Int) (HO a.flatten^(2^i+2^i-1))),.int .i64 0]) \/
   ((∀ j,j<=6->DP (B1 n a j)=false)/\v = .j4 [.agg [.sl false [],.bool false,.sl false [],.sl false [],.int .i64 0,.bool false,.sl false [],.sl false []],.int .i64 14])):=by
 have et:=hs.l;have Bf:n*n<=4*4:=Nat.mul_le_mul hn hn;have Ds:n*n*k<=16*k:=Nat.mul_le_mul_right k Bf;have ch:a.flatten.length<=64:=by
  have : ∀ (a:List (List Rat)),(∀ r∈a,r.length=n)->a.flatten.length=a.length*n:=by
   intro a;induction a with
   | nil=>intro _;simp
   | cons r a ih =>
    intro h;rw[List.flatten_cons,List.length_append,ih λ x hx=>h x (List.mem_cons_of_mem _ hx),h r List.mem_cons_self,List.length_cons,Nat.succ_mul,Nat.add_comm]
  rw[this a hs.r,et];omega
 have vi:=XT N q q' a k ha ch (by omega) (by omega);have hO:=JA N.toa7 1 (by omega);rw[show ((1:Int):Rat)=1 from rfl]at hO;obtain ⟨D0,eD,d1,d2,d3⟩:=lS hs ha;have Ci:Bt (16*k) (D0:Rat):=UZ (Nat.le_trans d2 (Nat.pow_le_pow_right (by omega) Ds));have Pa:(0:Rat)<(D0:Rat):=U0 d1;have Fw:=W7 (Nat.le_trans d2 (Nat.pow_le_pow_right (by omega) Ds));have Ga:=aA hs hn d3;rw[eD]at vi ⊢;generalize (D0:Rat)=D at *;clear eD d1 d2 d3;have tv:(B4 D a).length=n:=by rw[Z0];exact et
 have Cs : ∀ (i:Nat) (r:List Rat),a[i]? = some r->(B4 D a)[i]? = some (r.map (· * D)):=λ i r hr=>Mh hr
 have ql : ∀ i,Sq n (B4 (DI D i) (B1 n a i)):=λ i=>lP _ (OB hs i)
 have pg : ∀ i,i<=6->Ms 300000000 (B4 (DI D i) (B1 n a i)):=λ i hi r hr x hx=>((Ga i r hr x hx).le (by have:=Nc (k:=k) i (by omega);omega)).bt
 have w3 : ∀ i,i<=6->Bt 300000000 (DI D i):=λ i hi=>((Fw i).le (by
  have:=(U7 hi).1
  have:=Nat.mul_le_mul_right (16*k) this
  omega)).bt
 have Fv:=λ(i:Nat) (q q':Bool) (hi:i<=6)=>xA N q q' (B4 (DI D i) (B1 n a i)) (DI D i) n 300000000 300000000 (ql i) (pg i hi) (w3 i hi) (by omega) (by omega) (by omega)
 have xy:=λ(i:Nat) (q q':Bool) (hi:i<=6)=>xF N q q' (B4 (DI D i) (B1 n a i)) n 300000000 (ql i) (pg i hi) hn (by omega)
 have Fy:=λ(i:Nat) (hi:i<=6)=>M6 N.toa7 (w3 i hi) (w3 i hi) (by omega) (by omega)
 have k6 : ∀ i,FI (B4 (DI D i) (B1 n a i)) (B4 (DI D i) (B1 n a i)) n=B4 (DI D (i+1)) (B1 n a (i+1)):=λ i=>mE n a D i
 have yg : ∀ i,(∀ r∈B4 (DI D i) (B1 n a i),BG r+BG r<=DI D i)↔DP (B1 n a i)=true:=λ i=>sM Pa
 have Fx:=λ(j:Nat) (hj:j<=128)=>M6 N.toa7 (ZE Ci j) Ci (show j*(16*k)<2199023255552 by
  have:=Nat.mul_le_mul_right (16*k) hj
  omega) (by omega)
 have yn : ∀ (i:Nat) (q q':Bool),i<=6->Ev L 302 [.sl q (GM q' (B4 (DI D i) (B1 n a i))),.agg (eQ (DI D i))] (.bool (DP (B1 n a i))):=λ i q q' hi=>by
  have:=Fv i q q' hi
  rwa [show decide (∀ r∈B4 (DI D i) (B1 n a i),BG r+BG r<=DI D i)=DP (B1 n a i) by rw[Bool.eq_iff_iff,decide_eq_true_iff];exact yg i]at this
 have xx : ∀ (i:Nat) (q q':Bool),i<=6->Ev L 299 [.sl q (GM q' (B4 (DI D i) (B1 n a i)))] (.sl false (eM (B4 (DI D (i+1)) (B1 n a (i+1))))):=λ i q q' hi=>by
  have:=xy i q q' hi
  rwa [k6]at this
 have ga : ∀ i,i<=6->Ev L 99 [.agg (eQ (DI D i)),.agg (eQ (DI D i))] (.agg (eQ (DI D (i+1)))):=Fy;have Cm : ∀ j:Nat,j<=128->Ev L 99 [.agg (eQ (D^j)),.agg (eQ D)] (.agg (eQ (D^(j+1)))):=λ j hj=>by
  have:=Fx j hj
  rwa [<-Rat.pow_succ]at this
 have tl : ∀ q q':Bool,Ev L 302 [.sl q (GM q' (B4 D a)),.agg (eQ D)] (.bool (DP (B1 n a 0))):=λ q q'=>yn 0 q q' (by omega)
 have Pj : ∀ q q':Bool,Ev L 299 [.sl q (GM q' (B4 D a))] (.sl false (eM (B4 (DI D 1) (B1 n a 1)))):=λ q q'=>xx 0 q q' (by omega)
 have Pc:Ev L 99 [.agg (eQ D),.agg (eQ D)] (.agg (eQ (DI D 1))):=ga 0 (by omega);clear Fv xy Fy Fx k6 yg pg w3 ql Ga Fw;refine Ev.xE N.KJ rfl rfl ?_;by_cases h0:n=0
 ·obtain rfl:a=[]:=List.length_eq_zero_iff.1 (by omega)
  have hb:DP (B1 n [] 0)=true:=rfl;have ke:=tl false false;rw[hb]at ke;have Oy:Ev L 302 [.sl false [],.agg (eQ D)] (.bool true):=ke;have Fz:=Cm 0 (by omega);rw[Rat.pow_zero]at Fz;(repeat' ((first|apply AW|apply AE|refine AD (vi) ?_|refine AD (hO) ?_)<;>conv=>whnf))
  refine F2 ?_;(repeat' ((first|(apply AH<;>intro hc<;>try (exfalso;omega))|apply AE)<;>conv=>whnf))
  refine F2 ?_;(repeat' ((first|(apply BX;omega)|(apply DW;omega)|apply AE|refine AD (Oy) ?_)<;>conv=>whnf))
  refine F2 ?_;(repeat' ((first|(apply AH<;>intro hc<;>try (exfalso;omega))|(apply AZ;omega)|apply AE|refine AD (Fz) ?_)<;>conv=>whnf))
  refine F2 ?_;(repeat' ((first|(apply AH<;>intro hc<;>try (exfalso;omega))|apply AE)<;>conv=>whnf))
  refine ⟨.j4 [.agg (MG false [] D 1 (D^1)),.int .i64 0],?_,Or.inl ⟨0,by omega,⟨rfl,λ j hj=>absurd hj (by omega)⟩,rfl⟩⟩;exact AU rfl (WQ [] D 1 (D^1) 0)
 (repeat' ((first|apply AW|apply AE|refine AD (vi) ?_|refine AD (hO) ?_)<;>conv=>whnf))
 refine FZ (λ i _=>n-i) (λ(i:Nat) (fl:Bool)=>i<=n/\fl=decide (i=0)) (λ i _=>[(15,.int .i64 i)]) (λ i fl=>bif fl then [] else [(4,4,.bx ([.row 1000 0 1 0 i]++eQ D++[.int .i64 1]++eQ 1)),(1000,26,.rw 1 (((B4 D a).take i).map λ r=>[AV.sl false (r.map eQ)]))]) [] [] 0 true (by (conv=>whnf);exact ⟨rfl,rfl,rfl⟩) ⟨by omega,rfl⟩ ?_;intro i fl ⟨p1,p2⟩ ih;have ea:((B4 D a).take i).length=i:=by rw[List.length_take];omega
 by_cases hi:i<n
 ·obtain ⟨r,hr⟩ : ∃ r,a[i]? = some r:=⟨_,zE (by omega)⟩
  have mr:a[(i:Int).toNat]? = some r:=hr;have dj:=hs.at hr;have Gc:=λ q=>XU N q r D k (16*k) (ha.at hr) Ci (by omega) (by omega) (by omega)
  have iu:=Cs i r hr;generalize r.map (· * D)=w at *;cases fl
  ·have fp:i≠0:=by simpa using p2.symm
   (repeat' ((first|(apply AH<;>intro hc<;>try (exfalso;omega))|(refine BJ (by assumption) ?_ rfl ?_;omega)|apply EG|apply AE|refine AD (Gc _) ?_)<;>conv=>whnf))
   refine FA (l:=(B4 D a).take i) (z:=1) (bytes:=24) (enc:=λ r:List Rat=>[AV.sl false (r.map eQ)]) w rfl ea.symm rfl (by omega) (by omega) ?_;(conv=>whnf)
   (repeat' ((first|(apply AZ;omega)|fail)<;>conv=>whnf))
   rw[<-G5 iu,show ((B4 D a).take (i+1)).length=i+1 by rw[List.length_take];omega];exact BQ [(1000,26)] (ih (i+1) false (by omega) ⟨by omega,by simp⟩)
  ·have fp:i=0:=by simpa using p2.symm
   subst fp;(repeat' ((first|(apply AH<;>intro hc<;>try (exfalso;omega))|(refine BJ (by assumption) ?_ rfl ?_;omega)|apply EG|apply AE|refine AD (Gc _) ?_)<;>conv=>whnf))
   refine P0 (enc:=λ r:List Rat=>[AV.sl false (r.map eQ)]) w rfl rfl (by omega) ?_;(conv=>whnf)
   (repeat' ((first|(apply AZ;omega)|fail)<;>conv=>whnf))
   rw[show [w]=(B4 D a).take (0+1) by rw[G5 iu];rfl];exact BQ [(1000,26)] (ih 1 false (by omega) ⟨by omega,by simp⟩)
 have ei:i=n:=by omega
 obtain rfl:fl=false:=by rw[p2];simp;omega
 clear ih p2 ea;rw[ei,List.take_of_length_le (by omega)];(repeat' ((first|(apply AH<;>intro hc<;>try (exfalso;omega))|apply AE)<;>conv=>whnf))
 refine FZ (λ i _=>7-i) (λ(i:Nat) (fl:Bool)=>i<=6/\(fl=true->i=0) /\ ∀ j,j<i->DP (B1 n a j)=false) (λ i fl=>[(7,bif fl then .row 1000 0 1 0 n else .sl false (eM (B4 (DI D i) (B1 n a i))))]) (λ i _=>[(8,8,.bx (eQ (DI D i))),(4,4,.bx ([.row 1000 0 1 0 n]++eQ D++[.int .i64 ((2^i:Nat):Int)]++eQ 1))]) [] [] 0 true (by (conv=>whnf);exact ⟨rfl,rfl,rfl⟩) ⟨by omega,λ_=>rfl,λ j hj=>absurd hj (by omega)⟩ ?_;intro i fl ⟨s1,s2,s3⟩ jh;obtain ⟨g1,g2,g3⟩:=U7 s1;have wj:((2^(i+1):Nat):Int)=((2^i:Nat):Int)*2:=by rw[Nat.pow_succ];omega
 have yq:=λ q q'=>yn i q q' s1
 have Rs:=λ q q'=>xx i q q' s1
 have Re:=ga i s1;cases hb:DP (B1 n a i)
 ·rw[hb]at yq
  by_cases h6:i=6
  ·have Ov:((2^i:Nat):Int)=64:=by rw[h6];rfl
   have jk : ∀ j,j<=6->DP (B1 n a j)=false:=λ j hj=>by
    by_cases h:j=6
    ·rw[h,<-h6];exact hb
    ·exact s3 j (by omega)
   cases fl
   ·rw[Ov]
    (repeat' ((first|(apply AH<;>intro hc<;>try (exfalso;omega))|apply AE|refine AD (yq _ _) ?_)<;>conv=>whnf))
    exact ⟨_,AU rfl (by simp [A1,CM,FO]),Or.inr ⟨jk,rfl⟩⟩
   ·exact absurd (s2 rfl) (by omega)
  ·have Rh:((2^i:Nat):Int)≠64:=λ e=>h6 (g2 (by omega))
   have cu : ∀ j,j<i+1->DP (B1 n a j)=false:=λ j hj=>by
    by_cases h:j=i
    ·rw[h];exact hb
    ·exact s3 j (by omega)
   cases fl
   ·generalize 2^i=P at *
    (repeat' ((first|(apply AH<;>intro hc<;>try (exfalso;omega))|(apply DW;omega)|apply AE|refine AD (yq _ _) ?_|refine AD (Rs _ _) ?_|refine AD (Re) ?_)<;>conv=>whnf))
    rw[<-wj];exact BQ [] (jh (i+1) false (by omega) ⟨by omega,(λ h=>by cases h),cu⟩)
   ·obtain rfl:=s2 rfl
    have ke:=tl;rw[hb]at ke;generalize 2^0=P at *;(repeat' (apply AE<;>conv=>whnf))
    refine DX (enc:=λ r:List Rat=>[AV.sl false (r.map eQ)]) (λ_=>rfl) rfl tv.symm ?_;(conv=>whnf)
    (repeat' ((first|(apply AH<;>intro hc<;>try (exfalso;omega))|refine AD (ke _ _) ?_)<;>conv=>whnf))
    refine DX (enc:=λ r:List Rat=>[AV.sl false (r.map eQ)]) (λ_=>rfl) rfl tv.symm ?_;(conv=>whnf)
    (repeat' ((first|(apply DW;omega)|refine AD (Pj _ _) ?_|refine AD (Pc) ?_)<;>conv=>whnf))
    rw[<-wj];exact BQ [] (jh (0+1) false (by omega) ⟨by omega,(λ h=>by cases h),cu⟩)
 ·rw[hb]at yq
  have nu:H2 n a i:=⟨hb,s3⟩;have az : ∀ r:AV,r = .j4 [.agg (MG false (B4 D a) D ((2^i:Nat):Int) (D^(2^i+2^i-1))),.int .i64 0]->((∃ i,i<=6/\H2 n a i/\r = .j4 [.agg (MG false (B4 D a) D ((2^i:Nat):Int) (D^(2^i+2^i-1))),.int .i64 0])\/((∀ j,j<=6->DP (B1 n a j)=false)/\r = .j4 [.agg [.sl false [],.bool false,.sl false [],.sl false [],.int .i64 0,.bool false,.sl false [],.sl false []],.int .i64 14])):=λ r hr=>Or.inl ⟨i,s1,nu,hr⟩
  clear wj jh;generalize 2^i=P at *;cases fl
  ·(repeat' ((first|(apply BX;omega)|(apply DW;omega)|apply AE|refine AD (yq _ _) ?_)<;>conv=>whnf))
   refine CW (λ j=>P+P-1-j) (λ(j:Nat)=>j<=P+P-1) (λ j=>[(54,.int .i64 j)]) (λ j=>[(4,4,.bx ([.row 1000 0 1 0 n]++eQ D++[.int .i64 (P:Int)]++eQ (D^j)))]) [] [] 0 (by rw[Rat.pow_zero];exact (by (conv=>whnf);exact ⟨rfl,rfl,rfl⟩)) (by omega) ?_;intro j t1 kh;by_cases hj:j<P+P-1
   ·have hl:=Cm j (by omega)
    (repeat' ((first|(apply AH<;>intro hc<;>try (exfalso;omega))|(apply AZ;omega)|apply AE|refine AD (hl) ?_)<;>conv=>whnf))
    exact BQ [] (kh (j+1) (by omega) (by omega))
   have ej:j=P+P-1:=by omega
   clear kh;rw[ej];(repeat' ((first|(apply AH<;>intro hc<;>try (exfalso;omega))|apply AE)<;>conv=>whnf))
   refine ⟨.j4 [.agg (MG false (B4 D a) D (P:Int) (D^(P+P-1))),.int .i64 0],?_,az _ rfl⟩;(conv=>whnf)
   refine DX (enc:=λ r:List Rat=>[AV.sl false (r.map eQ)]) (λ_=>rfl) rfl tv.symm ?_;(conv=>whnf)
   exact AU rfl (WQ _ _ _ _ 0)
  ·obtain rfl:=s2 rfl
   have ke:=tl;rw[hb]at ke;(repeat' (apply AE<;>conv=>whnf))
   refine DX (enc:=λ r:List Rat=>[AV.sl false (r.map eQ)]) (λ_=>rfl) rfl tv.symm ?_;(conv=>whnf)
   (repeat' ((first|(apply BX;omega)|(apply DW;omega)|refine AD (ke _ _) ?_)<;>conv=>whnf))
   refine CW (λ j=>P+P-1-j) (λ(j:Nat)=>j<=P+P-1) (λ j=>[(54,.int .i64 j)]) (λ j=>[(4,4,.bx ([.row 1000 0 1 0 n]++eQ D++[.int .i64 (P:Int)]++eQ (D^j)))]) [] [] 0 (by rw[Rat.pow_zero];exact (by (conv=>whnf);exact ⟨rfl,rfl,rfl⟩)) (by omega) ?_;intro j t1 kh;by_cases hj:j<P+P-1
   ·have hl:=Cm j (by omega)
    (repeat' ((first|(apply AH<;>intro hc<;>try (exfalso;omega))|(apply AZ;omega)|apply AE|refine AD (hl) ?_)<;>conv=>whnf))
    exact BQ [] (kh (j+1) (by omega) (by omega))
   have ej:j=P+P-1:=by omega
   clear kh;rw[ej];(repeat' ((first|(apply AH<;>intro hc<;>try (exfalso;omega))|apply AE)<;>conv=>whnf))
   refine ⟨.j4 [.agg (MG false (B4 D a) D (P:Int) (D^(P+P-1))),.int .i64 0],?_,az _ rfl⟩;(conv=>whnf)
   refine DX (enc:=λ r:List Rat=>[AV.sl false (r.map eQ)]) (λ_=>rfl) rfl tv.symm ?_;(conv=>whnf)
   exact AU rfl (WQ _ _ _ _ 0)
theorem vM (x:Rat):eQ (CJ x)=[.bool false,.sl false ((dg x.num.natAbs).map AJ),.sl false ((dg x.den).map AJ)]:=by
 unfold CJ;by_cases h:x.num<0
 ·rw[if_pos h]
  show rQ false false (decide ((-x).num<0)) _ _=_;rw[Rat.neg_num,Int.natAbs_neg,Rat.neg_den,show decide (-x.num<0)=false from decide_eq_false (by omega)]
 ·rw[if_neg h]
  show rQ false false (decide (x.num<0)) _ _=_;rw[show decide (x.num<0)=false from decide_eq_false h]
theorem xU (N:z7 L) {x:Rat} {k:Nat} (hx:Bt k x) (hk:k<2199023255552):Ev L 309 [.agg (eQ x)] (.agg (eQ (CJ x))):=by
 have hT:=gM N.toa9 hx hk;have hs:=hx.jb hk;have hR:=λ q=>FD N.toa9 (dg x.num.natAbs) q (DF _) (by have:=hs.1.2;omega)
 rw[BK]at hR;have hA : ∀ b q,Ev L 308 [.agg [.bool b,.sl q ((dg x.num.natAbs).map AJ)]] (.agg [.bool false,.sl false ((dg x.num.natAbs).map AJ)]):=λ b q=>by
  refine Ev.x N.K7 rfl rfl ?_;(repeat' ((first|apply AE|refine AD (hR _) ?_)<;>conv=>whnf))
  exact AU rfl (cM _ _)
 have n6:=C8 (CJ x);rw[vM]at n6 ⊢;refine Ev.x N.LI rfl rfl ?_;(repeat' ((first|apply AE|refine AD (hT) ?_|refine AD (hA _ _) ?_)<;>conv=>whnf))
 exact AU rfl n6
theorem xX (N:z7 L) (q q':Bool) (a:List (List Rat)) (n:Nat) (hs:Sq n a) (hn:n<=16):Ev L 310 [.sl q (GM q' a)] (.bool true):=by
 have et:=hs.l;refine Ev.x N.LS rfl rfl ?_;(repeat' (apply AE<;>conv=>whnf))
 refine CW (λ i=>a.length-i) (λ(i:Nat)=>i<=a.length) (λ i=>[(3,.int .i64 i)]) (λ_=>[]) [] [] 0 (by (conv=>whnf);exact ⟨rfl,rfl,rfl⟩) (by omega) ?_;intro i p1 ih;by_cases hi:i<a.length
 ·obtain ⟨r,hr⟩ : ∃ r,a[i]? = some r:=⟨_,zE hi⟩
  have mr:a[(i:Int).toNat]? = some r:=hr;have ea:=hs.at hr;(repeat' ((first|(apply AH<;>intro hc<;>try (exfalso;omega))|(apply AZ;omega)|apply AW|(refine BJ (by assumption) ?_ rfl ?_;omega)|apply AE)<;>conv=>whnf))
  exact BQ [] (ih (i+1) (by omega) (by omega))
 obtain rfl:i=a.length:=by omega
 clear ih;(repeat' ((first|(apply AH<;>intro hc<;>try (exfalso;omega))|apply AW|apply AE)<;>conv=>whnf))
 exact L6 rfl
theorem xW (N:z7 L) (q:Bool) (v:List Rat) (k:Nat) (hv:Bs k v) (hn:v.length<=1000) (hk:k<=1000000000):Ev L 311 [.sl q (v.map eQ)] (.agg (eQ (BG v))):=by
 have hO:=UH N.toa9 0 (by omega);rw[show ((0:Int):Rat)=0 from rfl]at hO;refine Ev.x N.LR rfl rfl ?_;(repeat' ((first|apply AE|refine AD (hO) ?_)<;>conv=>whnf))
 refine CW (λ i=>v.length-i) (λ(i:Nat)=>i<=v.length) (λ i=>[(4,.int .i64 i)]) (λ i=>[(3,3,.bx (eQ (BG (v.take i))))]) [] [] 0 (by rw[show BG (v.take 0)=0 from rfl];exact (by (conv=>whnf);exact ⟨rfl,rfl,rfl⟩)) (by omega) ?_;intro i p1 ih;by_cases hi:i<v.length
 ·obtain ⟨x,hx⟩ : ∃ x,v[i]? = some x:=⟨_,zE hi⟩
  have oo:v[(i:Int).toNat]? = some x:=hx;have hA:=xU N (hv.at hx) (by omega);have hz:Bt (1000*(k+1)) (BG (v.take i)):=(PP (hv.take i)).le (Nat.mul_le_mul_right _ (by rw[List.length_take];omega));have hP:=XL N.toa9 hz (NS (hv.at hx)) (by omega) (by omega);rw[<-lO hx]at hP;generalize BG (v.take i)=w at *;generalize CJ x=y at *;(repeat' ((first|(apply AH<;>intro hc<;>try (exfalso;omega))|(apply AZ;omega)|apply AW|(refine BJ (by assumption) ?_ rfl ?_;omega)|apply AE|refine AD (hA) ?_|refine AD (hP) ?_)<;>conv=>whnf))
  exact BQ [] (ih (i+1) (by omega) (by omega))
 obtain rfl:i=v.length:=by omega
 clear ih;rw[List.take_of_length_le (Nat.le_refl _)];(repeat' ((first|(apply AH<;>intro hc<;>try (exfalso;omega))|apply AW|apply AE)<;>conv=>whnf))
 exact AU rfl (C8 _)
theorem xY (N:z7 L) (q q':Bool) (a:List (List Rat)) (n kk:Nat) (hs:Sq n a) (ha:Ms kk a) (hn:n<=4) (hk:kk<=1000000000):Ev L 313 [.sl q (GM q' a)] (.sl false (eM (FI a a n))):=by
 have et:=hs.l;have xq:Sq n (FI a a n):=Sq.mul hs.l a;have Cn : ∀ (i:Nat) (r:List Rat),a[i]? = some r->(FI a a n)[i]? = some (ER r a n):=λ i r hr=>by rw[FI,List.getElem?_map,hr];rfl
 have Ar : ∀ (j:Nat) (r:List Rat),j<n->(ER r a n)[j]? = some (BP r (CY a j)):=λ j r hj=>by rw[ER,List.getElem?_map,List.getElem?_range hj];rfl
 have Co:=xq.l;have Aq:=xq.r;have hO:=UH N.toa9 0 (by omega);rw[show ((0:Int):Rat)=0 from rfl]at hO;generalize FI a a n=Q at *;refine Ev.x N.LT rfl rfl ?_;(repeat' ((first|apply AW|apply AE)<;>conv=>whnf))
 unfold CS;refine ⟨⟨by omega,by omega,by simp only[D6];omega,by omega⟩,?_⟩;rw[Int.toNat_natCast,et];(conv=>whnf)
 skip
 refine CW (λ i=>n-i) (λ(i:Nat)=>i<=n) (λ i=>[(4,.int .i64 i)]) (λ i=>[(10,10,.mx (mz Q n i))]) [] [] 0 (by first|exact (by (conv=>whnf);exact ⟨rfl,rfl,rfl⟩)|(rw[<-Mj Q];exact (by (conv=>whnf);exact ⟨rfl,rfl,rfl⟩))) (by omega) ?_;intro i p1 ih;have tc:=Iw (Q:=Q) p1;by_cases hi:i<n
 ·obtain ⟨rr,hr⟩ : ∃ r,a[i]? = some r:=⟨_,zE (by omega)⟩
  have mr:a[(i:Int).toNat]? = some rr:=hr;have ea:=hs.at hr;have pj:=ha.at hr;have hq:=Cn i rr hr;have k6:=Mi hq hi;have od:(mz Q n i)[i]? = some none:=Ix Co hi;have zn:(ER rr a n).length=n:=Aq _ (zM hq);have ql:(ER rr a n).take 1=[BP rr (CY a 0)]:=by
   rw[G5 (Ar 0 rr (by omega))];rfl
  have Ro : ∀ j,j<n->(ER rr a n).take (j+1)=(ER rr a n).take j++[BP rr (CY a j)]:=λ j hj=>G5 (Ar j rr hj)
  generalize mz Q n i=R0 at *;generalize ER rr a n=qr at *;(repeat' ((first|(apply AH<;>intro hc<;>try (exfalso;omega))|apply AW|apply AE)<;>conv=>whnf))
  refine F2 ?_;(repeat' ((first|(apply AH<;>intro hc<;>try (exfalso;omega))|apply AW|apply AE|refine AD (hO) ?_)<;>conv=>whnf))
  refine CW (λ k=>n-k) (λ(k:Nat)=>k<=n) (λ k=>[(7,.int .i64 k)]) (λ k=>[(6,6,.bx (eQ (BP (rr.take k) ((CY a 0).take k))))]) [] [] 0 (by rw[show BP (rr.take 0) ((CY a 0).take 0)=0 from rfl];exact (by (conv=>whnf);exact ⟨rfl,rfl,rfl⟩)) (by omega) ?_;intro k t1 kh;by_cases gx:k<n
  ·obtain ⟨x,hx⟩ : ∃ x,rr[k]? = some x:=⟨_,zE (by omega)⟩
   obtain ⟨s,ia⟩ : ∃ s,a[k]? = some s:=⟨_,zE (by omega)⟩;have Ej:=hs.at ia;obtain ⟨y,hy⟩ : ∃ y,s[0]? = some y:=⟨_,zE (by omega)⟩;have oo:rr[(k:Int).toNat]? = some x:=hx;have qo:a[(k:Int).toNat]? = some s:=ia;have sv:s[((0:Nat):Int).toNat]? = some y:=hy;have Dc:=dA ia hy;have hM:=XN N.toa9 (pj.at hx) ((ha.at ia).at hy) (by omega) (by omega);have hd:Bt (4*(kk+kk+1)) (BP (rr.take k) ((CY a 0).take k)):=((pj.take k).dot ((Ms.An ha 0).take k)).le (Nat.mul_le_mul_right _ (by rw[List.length_take];omega));have hA:=XL N.toa9 hd ((pj.at hx).mul ((ha.at ia).at hy)) (by omega) (by omega);rw[<-UD hx Dc]at hA;generalize BP (rr.take k) ((CY a 0).take k)=w at *;generalize x*y=p at *;(repeat' ((first|(apply AH<;>intro hc<;>try (exfalso;omega))|(apply AZ;omega)|apply AW|(refine BJ (by assumption) ?_ rfl ?_;omega)|apply AE|refine AD (hM) ?_|refine AD (hA) ?_)<;>conv=>whnf))
   exact BQ [] (kh (k+1) (by omega) (by omega))
  have ek:k=n:=by omega
  clear kh;rw[ek,W8 ea];generalize BP rr (CY a 0)=y0 at *;(repeat' ((first|(apply AH<;>intro hc<;>try (exfalso;omega))|(apply A9;omega)|apply AW|apply AE)<;>conv=>whnf))
  refine bF (r:=none) (by rw[Nat.zero_add,Int.toNat_natCast];exact od) ?_;(conv=>whnf)
  (repeat' (apply EG<;>conv=>whnf))
  refine P0 (enc:=eQ) y0 rfl rfl (by omega) ?_;(conv=>whnf)
  (repeat' ((first|(apply A9;omega)|fail)<;>conv=>whnf))
  refine A9 rfl ?_;refine bR (i:=i) (by omega) (by omega) ?_;(conv=>whnf)
  (repeat' ((first|(apply AZ;omega)|fail)<;>conv=>whnf))
  refine CW (λ j=>n-j) (λ(j:Nat)=>1<=j/\j<=n) (λ j=>[(5,.int .i64 j)]) (λ j=>[(10,10,.mx (R0.set i (some (3,(qr.take j).map eQ))))]) [] [] 1 (by first|exact (by (conv=>whnf);exact ⟨rfl,rfl,rfl⟩)|(rw[ql];exact (by (conv=>whnf);exact ⟨rfl,rfl,rfl⟩))) (by omega) ?_;intro j ⟨r1,r2⟩ jh;have Uc:(qr.take j).length=j:=by rw[List.length_take];omega
  by_cases hj:j<n
  ·have lv:=Ro j hj
   have Eo:(qr.take (j+1)).length=j+1:=by rw[List.length_take];omega
   generalize qr.take j=W at *;(repeat' ((first|(apply AH<;>intro hc<;>try (exfalso;omega))|apply AW|apply AE|refine AD (hO) ?_)<;>conv=>whnf))
   refine CW (λ k=>n-k) (λ(k:Nat)=>k<=n) (λ k=>[(7,.int .i64 k)]) (λ k=>[(6+1000000,6,.bx (eQ (BP (rr.take k) ((CY a j).take k))))]) [] [] 0 (by rw[show BP (rr.take 0) ((CY a j).take 0)=0 from rfl];exact (by (conv=>whnf);exact ⟨rfl,rfl,rfl⟩)) (by omega) ?_;intro k t1 kh;by_cases gx:k<n
   ·obtain ⟨x,hx⟩ : ∃ x,rr[k]? = some x:=⟨_,zE (by omega)⟩
    obtain ⟨s,ia⟩ : ∃ s,a[k]? = some s:=⟨_,zE (by omega)⟩;have Ej:=hs.at ia;obtain ⟨y,hy⟩ : ∃ y,s[j]? = some y:=⟨_,zE (by omega)⟩;have oo:rr[(k:Int).toNat]? = some x:=hx;have qo:a[(k:Int).toNat]? = some s:=ia;have sv:s[((j:Nat):Int).toNat]? = some y:=hy;have Dc:=dA ia hy;have hM:=XN N.toa9 (pj.at hx) ((ha.at ia).at hy) (by omega) (by omega);have hd:Bt (4*(kk+kk+1)) (BP (rr.take k) ((CY a j).take k)):=((pj.take k).dot ((Ms.An ha j).take k)).le (Nat.mul_le_mul_right _ (by rw[List.length_take];omega));have hA:=XL N.toa9 hd ((pj.at hx).mul ((ha.at ia).at hy)) (by omega) (by omega);rw[<-UD hx Dc]at hA;generalize BP (rr.take k) ((CY a j).take k)=w at *;generalize x*y=p at *;(repeat' ((first|(apply AH<;>intro hc<;>try (exfalso;omega))|(apply AZ;omega)|apply AW|(refine BJ (by assumption) ?_ rfl ?_;omega)|apply AE|refine AD (hM) ?_|refine AD (hA) ?_)<;>conv=>whnf))
    exact BQ [] (kh (k+1) (by omega) (by omega))
   have ek:k=n:=by omega
   clear kh;rw[ek,W8 ea];generalize BP rr (CY a j)=y0 at *;(repeat' ((first|(apply AH<;>intro hc<;>try (exfalso;omega))|(apply A9;omega)|apply AW|apply AE)<;>conv=>whnf))
   refine oT (by omega) (by omega) ?_;(conv=>whnf)
   (repeat' (apply EG<;>conv=>whnf))
   refine oS (by omega) (by omega) ?_;(conv=>whnf)
   refine FA (enc:=eQ) y0 rfl (by rw[List.length_map]) rfl (by omega) (by omega) ?_;intro s' v;rw[<-lv,Eo];(conv=>whnf)
   (repeat' ((first|(apply A9;omega)|fail)<;>conv=>whnf))
   refine A9 ⟨rfl,by rw[List.length_map];omega⟩ ?_;refine bR (i:=i) (by omega) (by rw[List.length_set,List.length_set];omega) ?_;rw[show 0+((i:Int)).toNat=i by omega,List.set_set,List.set_set];(conv=>whnf)
   (repeat' ((first|(apply AZ;omega)|fail)<;>conv=>whnf))
   exact BQ [] (jh (j+1) (by omega) (by omega))
  have ej:j=n:=by omega
  clear jh;rw[ej,List.take_of_length_le (by omega),k6];(repeat' ((first|(apply AH<;>intro hc<;>try (exfalso;omega))|(apply AZ;omega)|apply AW|apply AE)<;>conv=>whnf))
  exact BQ [] (ih (i+1) (by omega) (by omega))
 have ei:i=n:=by omega
 clear ih;rw[ei,Iv (by omega)];(repeat' ((first|(apply AH<;>intro hc<;>try (exfalso;omega))|apply AW|apply AE)<;>conv=>whnf))
 refine TG (λ_=>rfl) rfl (by omega) ?_;(conv=>whnf)
 exact AU rfl (cO Q)
theorem xV (N:z7 L) (q q':Bool) (a:List (List Rat)) (n k:Nat) (hs:Sq n a) (ha:Ms k a) (hn:n<=4) (hk:k<=100) :
  ∃ v,Ev L 314 [.sl q (GM q' a)] v/\((∃ i,i<=6/\H2 n a i/\v = .j4 [.int .i64 ((2^i:Nat):Int),.int .i64 0])\/((∀ j,j<=6->DP (B1 n a j)=false)/\v = .j4 [.int .i64 0,.int .i64 14])):=by
 have et:=hs.l;have hq:=xX N q q' a n hs (by omega);have hF:=RV N.toa9 1 2 (by omega) (by omega);have hb : ∀ i,i<=7->Ms 300000000 (B1 n a i):=λ i hi=>(Z9 hs ha hn i).le (by have:=Lg (k:=k) i hi;omega)
 have hZ:=λ(i:Nat) (q q':Bool) (hi:i<=6)=>xY N q q' (B1 n a i) n 300000000 (OB hs i) (hb i (by omega)) hn (by omega)
 have hh:Bt 2 (Rat.divInt 1 2):=Bt.mk (k:=2) (z:=1) (d:=2) (by decide) (by decide);have Qk:Rat.divInt 1 2=1/2:=by decide +kernel
 have hC : ∀ i r,i<=6->r∈B1 n a i->Ev L 127 [.agg (eQ (BG r)),.agg (eQ (Rat.divInt 1 2))] (.int .i64 (o9 (BG r-1/2).num)):=λ i r hi hr=>by
  have hz:Bt (4*(300000000+1)) (BG r):=(PP (hb i (by omega) r hr)).le (Nat.mul_le_mul_right _ (by rw[(OB hs i).r r hr];exact hn));have:=fE N.toa9 hz hh (by omega) (by omega)
  rwa [Qk]at this ⊢
 refine Ev.xE N.LQ rfl rfl ?_;(repeat' ((first|apply AE|refine AD (hq) ?_)<;>conv=>whnf))
 refine FZ (λ i _=>7-i) (λ(i:Nat) (fl:Bool)=>i<=7/\(fl=true->i=0) /\ ∀ j,j<i->DP (B1 n a j)=false) (λ i fl=>[(4,.int .i64 ((2^i:Nat):Int)),(0,bif fl then .sl q (GM q' a) else .sl false (eM (B1 n a i)))]) (λ_ _=>[]) [] [] 0 true (by (conv=>whnf);exact ⟨rfl,rfl,rfl⟩) ⟨by omega,λ_=>rfl,λ j hj=>absurd hj (by omega)⟩ ?_;intro i fl ⟨p1,p2,p3⟩ ih;by_cases h7:i=7
 ·have e7:((2^i:Nat):Int)=128:=by rw[h7];rfl
  rw[e7];have jk : ∀ j,j<=6->DP (B1 n a j)=false:=λ j hj=>p3 j (by omega)
  (repeat' ((first|(apply AH<;>intro hc<;>try (exfalso;omega))|apply AE)<;>conv=>whnf))
  exact ⟨_,AU rfl (by simp [A1,CM]),Or.inr ⟨jk,rfl⟩⟩
 obtain ⟨g1,g2,g3⟩:=U7 (i:=i) (by omega);have wj:((2^(i+1):Nat):Int)=2*((2^i:Nat):Int):=by rw[Nat.pow_succ];omega
 have Ej:=(OB hs i).l;have nu:DP (B1 n a i)=true->H2 n a i:=λ h=>⟨h,p3⟩
 have cu:DP (B1 n a i)=false -> ∀ j,j<i+1->DP (B1 n a j)=false:=λ h j hj=>by
  by_cases e:j=i
  ·rw[e];exact h
  ·exact p3 j (by omega)
 have Ch:=λ r=>hC i r (by omega)
 have Cu:=λ q q'=>hZ i q q' (by omega)
 have Cq:=λ q r (hr:r∈B1 n a i)=>xW N q r 300000000 (hb i (by omega) r hr) (by rw[(OB hs i).r r hr];omega) (by omega)
 have az : ∀ r:AV,H2 n a i->r = .j4 [.int .i64 ((2^i:Nat):Int),.int .i64 0]->((∃ i,i<=6/\H2 n a i/\r = .j4 [.int .i64 ((2^i:Nat):Int),.int .i64 0])\/((∀ j,j<=6->DP (B1 n a j)=false)/\r = .j4 [.int .i64 0,.int .i64 14])):=λ r h hr=>Or.inl ⟨i,by omega,h,hr⟩
 have gy : ∀ (m:Nat) (r:List Rat),(B1 n a i)[m]? = some r->DP ((B1 n a i).take (m+1))=(DP ((B1 n a i).take m)&&decide (BG r<=1/2)):=λ m r hr=>by
  rw[G5 hr,DP,DP,List.all_append];simp
 cases fl
 ·skip
  generalize 2^i=P at *;(repeat' ((first|(apply AH<;>intro hc<;>try (exfalso;omega))|apply AE)<;>conv=>whnf))
  refine FZ (λ m _=>n-m) (λ(m:Nat) (b:Bool)=>m<=n/\b=DP ((B1 n a i).take m)) (λ m b=>[(6,.int .i64 m),(5,.bool b)]) (λ_ _=>[]) [] [] 0 true (by (conv=>whnf);exact ⟨rfl,rfl,rfl⟩) ⟨by omega,rfl⟩ ?_;intro m b ⟨r1,r2⟩ mh;by_cases hm:m<n
  ·obtain ⟨r,hr⟩ : ∃ r,(B1 n a i)[m]? = some r:=⟨_,zE (by omega)⟩
   have mr:(B1 n a i)[(m:Int).toNat]? = some r:=hr;have fr:=zM hr;have ht:=gy m r hr;rw[<-r2]at ht;cases b
   ·(repeat' ((first|(apply AH<;>intro hc<;>try (exfalso;omega))|(apply AZ;omega)|apply AW|apply AE)<;>conv=>whnf))
    exact BQ [] (mh (m+1) false (by omega) ⟨by omega,by rw[ht];rfl⟩)
   ·have lj:=λ q=>Cq q r fr
    have ke:=Ch r fr;have hg:=VI (x:=BG r) (y:=1/2);by_cases h:BG r<=1/2
    ·have h1 : ¬ 0<o9 (BG r-1/2).num:=λ e=>by have:=hg.1 e;grind
     rw[decide_eq_true h]at ht;clear hg;generalize o9 (BG r-1/2).num=g at *;(repeat' ((first|(apply AH<;>intro hc<;>try (exfalso;omega))|(apply AZ;omega)|apply AW|(refine BJ (by assumption) ?_ rfl ?_;omega)|apply AE|refine AD (lj _) ?_|refine AD (hF) ?_|refine AD (ke) ?_)<;>conv=>whnf))
     exact BQ [] (mh (m+1) true (by omega) ⟨by omega,by rw[ht];rfl⟩)
    ·have h1:0<o9 (BG r-1/2).num:=hg.2 (by grind)
     rw[decide_eq_false h]at ht;clear hg;generalize o9 (BG r-1/2).num=g at *;(repeat' ((first|(apply AH<;>intro hc<;>try (exfalso;omega))|(apply AZ;omega)|apply AW|(refine BJ (by assumption) ?_ rfl ?_;omega)|apply AE|refine AD (lj _) ?_|refine AD (hF) ?_|refine AD (ke) ?_)<;>conv=>whnf))
     exact BQ [] (mh (m+1) false (by omega) ⟨by omega,by rw[ht];rfl⟩)
  have em:m=n:=by omega
  clear mh;rw[em,List.take_of_length_le (by omega)]at r2;cases b
  ·(repeat' ((first|(apply AH<;>intro hc<;>try (exfalso;omega))|(apply DW;omega)|apply AW|apply AE|refine AD (Cu _ _) ?_)<;>conv=>whnf))
   rw[<-wj];exact BQ [] (ih (i+1) false (by omega) ⟨by omega,(λ h=>by cases h),cu r2.symm⟩)
  ·(repeat' ((first|(apply AH<;>intro hc<;>try (exfalso;omega))|apply AW|apply AE)<;>conv=>whnf))
   exact ⟨_,AU rfl (by simp [A1,CM]),az _ (nu r2.symm) rfl⟩
 ·obtain rfl:=p2 rfl
  have e0:B1 n a 0=a:=rfl;rw[e0]at nu cu Ch Cu Cq gy Ej;generalize 2^0=P at *;(repeat' ((first|(apply AH<;>intro hc<;>try (exfalso;omega))|apply AE)<;>conv=>whnf))
  refine FZ (λ m _=>n-m) (λ(m:Nat) (b:Bool)=>m<=n/\b=DP (a.take m)) (λ m b=>[(6,.int .i64 m),(5,.bool b)]) (λ_ _=>[]) [] [] 0 true (by (conv=>whnf);exact ⟨rfl,rfl,rfl⟩) ⟨by omega,rfl⟩ ?_;intro m b ⟨r1,r2⟩ mh;by_cases hm:m<n
  ·obtain ⟨r,hr⟩ : ∃ r,a[m]? = some r:=⟨_,zE (by omega)⟩
   have mr:a[(m:Int).toNat]? = some r:=hr;have fr:=zM hr;have ht:=gy m r hr;rw[<-r2]at ht;cases b
   ·(repeat' ((first|(apply AH<;>intro hc<;>try (exfalso;omega))|(apply AZ;omega)|apply AW|apply AE)<;>conv=>whnf))
    exact BQ [] (mh (m+1) false (by omega) ⟨by omega,by rw[ht];rfl⟩)
   ·have lj:=λ q=>Cq q r fr
    have ke:=Ch r fr;have hg:=VI (x:=BG r) (y:=1/2);by_cases h:BG r<=1/2
    ·have h1 : ¬ 0<o9 (BG r-1/2).num:=λ e=>by have:=hg.1 e;grind
     rw[decide_eq_true h]at ht;clear hg;generalize o9 (BG r-1/2).num=g at *;(repeat' ((first|(apply AH<;>intro hc<;>try (exfalso;omega))|(apply AZ;omega)|apply AW|(refine BJ (by assumption) ?_ rfl ?_;omega)|apply AE|refine AD (lj _) ?_|refine AD (hF) ?_|refine AD (ke) ?_)<;>conv=>whnf))
     exact BQ [] (mh (m+1) true (by omega) ⟨by omega,by rw[ht];rfl⟩)
    ·have h1:0<o9 (BG r-1/2).num:=hg.2 (by grind)
     rw[decide_eq_false h]at ht;clear hg;generalize o9 (BG r-1/2).num=g at *;(repeat' ((first|(apply AH<;>intro hc<;>try (exfalso;omega))|(apply AZ;omega)|apply AW|(refine BJ (by assumption) ?_ rfl ?_;omega)|apply AE|refine AD (lj _) ?_|refine AD (hF) ?_|refine AD (ke) ?_)<;>conv=>whnf))
     exact BQ [] (mh (m+1) false (by omega) ⟨by omega,by rw[ht];rfl⟩)
  have em:m=n:=by omega
  clear mh;rw[em,List.take_of_length_le (by omega)]at r2;cases b
  ·(repeat' ((first|(apply AH<;>intro hc<;>try (exfalso;omega))|(apply DW;omega)|apply AW|apply AE|refine AD (Cu _ _) ?_)<;>conv=>whnf))
   rw[<-wj];exact BQ [] (ih (0+1) false (by omega) ⟨by omega,(λ h=>by cases h),cu r2.symm⟩)
  ·(repeat' ((first|(apply AH<;>intro hc<;>try (exfalso;omega))|apply AW|apply AE)<;>conv=>whnf))
   exact ⟨_,AU rfl (by simp [A1,CM]),az _ (nu r2.symm) rfl⟩
theorem xD (N:n7 L) (q q':Bool) (a:List (List Rat)) (n k:Nat) (hs:Sq n a) (ha:Ms k a) (hn:n<=4) (hk:k<=100000) :
  ∃ v,Ev L 306 [.sl q (GM q' a)] v/\((∃ i,i<=6/\H2 n a i/\v = .j4 [.int .i64 ((2^i:Nat):Int),.int .i64 0])\/((∀ j,j<=6->DP (B1 n a j)=false)/\v = .j4 [.int .i64 0,.int .i64 14])):=by
 have et:=hs.l;obtain ⟨v,hS,hv⟩:=fZ N q q' a n k hs ha hn hk;refine Ev.xE N.J8 rfl rfl ?_;(repeat' ((first|(apply AH<;>intro hc<;>try (exfalso;omega))|apply AW|apply AE)<;>conv=>whnf))
 refine CW (λ i=>n-i) (λ(i:Nat)=>i<=n) (λ i=>[(13,.int .i64 i)]) (λ_=>[]) [] [] 0 (by (conv=>whnf);exact ⟨rfl,rfl,rfl⟩) (by omega) ?_;intro i p1 ih;by_cases hi:i<n
 ·obtain ⟨r,hr⟩ : ∃ r,a[i]? = some r:=⟨_,zE (by omega)⟩
  have mr:a[(i:Int).toNat]? = some r:=hr;have ea:=hs.at hr;(repeat' ((first|(apply AH<;>intro hc<;>try (exfalso;omega))|(apply AZ;omega)|apply AW|(refine BJ (by assumption) ?_ rfl ?_;omega)|apply AE)<;>conv=>whnf))
  exact BQ [] (ih (i+1) (by omega) (by omega))
 have ei:i=n:=by omega
 clear ih;rcases hv with ⟨t,h1,h2,rfl⟩|⟨h1,rfl⟩
 ·(repeat' ((first|(apply AH<;>intro hc<;>try (exfalso;omega))|apply AE|refine AD (hS) ?_)<;>conv=>whnf))
  exact ⟨_,AU rfl (by simp [A1,CM]),Or.inl ⟨t,h1,h2,rfl⟩⟩
 ·(repeat' ((first|(apply AH<;>intro hc<;>try (exfalso;omega))|apply AE|refine AD (hS) ?_)<;>conv=>whnf))
  exact ⟨_,AU rfl (by simp [A1,CM]),Or.inr ⟨h1,rfl⟩⟩
theorem zV {D:Rat} {f:Nat->Rat} {p j:Nat} (h:p<=j):DY D f (j+1-p)=DY D f (j-p)*D+f (j-p):=by
 rw[show j+1-p=(j-p)+1 by omega];rfl
abbrev QB (Z:List (List Rat)) (T:Rat):List AV:=[.sl false (eM Z)]++eQ T
theorem rT (Z:List (List Rat)) (T:Rat):A1 (.agg (QB Z T)):=by
 have h1:=WR Z;have h3:=C8 T;simp only[A1,CM,true_and,and_true,QB,List.cons_append,List.nil_append]at h1 h3 ⊢;exact ⟨h1,h3.1,h3.2⟩
theorem xH (N:n7 L) (qr:Bool) (R:List (List Rat)) (D T:Rat) (z:Nat->List Rat) (n p kr kd kz:Nat) (hR:Sq n R) (As:Ms kr R) (hD:Bt kd D) (mb : ∀ j,j<=128->Bs kz (z j)) (tc : ∀ j,(z j).length=n) (hz : ∀ j,z (j+1)=FS R (z j))
  (hn:n<=4) (hp:1<=p/\p<=64) (k1:kr<=1000000000) (k2:kd<=1000000000) (k3:kz<=1000000000) :
  Ev L 304 [.agg (MG qr R D (p:Int) T),.sl false ((z 0).map eQ)] (.agg (QB ((List.range (p+p)).map z) (DY D (λ m=>C1 (z (p+m))) p))):=by
 have hO:=JA N.toa7 0 (by omega);rw[show ((0:Int):Rat)=0 from rfl]at hO;have az:=rT ((List.range (p+p)).map z) (DY D (λ m=>C1 (z (p+m))) p);have zu : ∀ j,(List.range (j+1)).map z=(List.range j).map z++[z j]:=λ j=>by rw[List.range_succ,List.map_append];rfl
 have ea : ∀ j,((List.range j).map z).length=j:=λ j=>by simp
 have vk : ∀ m,m<=64->Bt (64*(kd+kz+1)) (DY D (λ m=>C1 (z (p+m))) m):=λ m hm=>(R6 hD m λ j hj=>US (mb (p+j) (by omega))).le (Nat.mul_le_mul_right _ hm)
 refine Ev.x N.KG rfl rfl ?_;(repeat' ((first|(apply DW;omega)|apply AE|refine AD (hO) ?_)<;>conv=>whnf))
 refine FZ (λ j _=>p+p-j) (λ(j:Nat) (fl:Bool)=>j<=p+p/\fl=decide (j=0)) (λ j _=>[(14,.int .i64 j),(6,.sl false ((z (j-1)).map eQ))]) (λ j fl=>bif fl then [] else [(5,5,.bx ([.row 1000 0 1 0 j]++eQ (DY D (λ m=>C1 (z (p+m))) (j-p)))),(1000,27,.rw 1 (((List.range j).map z).map λ r=>[AV.sl false (r.map eQ)]))]) [] [] 0 true (by (conv=>whnf);exact ⟨rfl,rfl,rfl⟩) ⟨by omega,rfl⟩ ?_;intro j fl ⟨p1,p2⟩ ih;by_cases hj:j<p+p
 ·have hA:=λ q1 q2=>wZ N q1 q2 qr R (z (j-1)) n kr kz hR (tc _) As (mb _ (by omega)) hn k1 k3
  have hG:=λ q=>xC N q (z j) kz (mb j (by omega)) (by rw[tc];omega) (by omega)
  have hs:=zu j;have hl:=ea j;have fk:=ea (j+1);cases fl
  ·have yx:j≠0:=by simpa using p2.symm
   have Fb:FS R (z (j-1))=z j:=by rw[<-hz];congr 1;omega
   rw[Fb]at hA;by_cases Qp:p<=j
   ·have h1:=M6 N.toa7 (vk (j-p) (by omega)) hD (by omega) (by omega)
    have h2:=O1 N.toa7 ((vk (j-p) (by omega)).mul hD) (US (mb j (by omega))) (by omega) (by omega);have he:DY D (λ m=>C1 (z (p+m))) (j-p)*D+C1 (z j)=DY D (λ m=>C1 (z (p+m))) (j+1-p):=by
     rw[zV Qp,show p+(j-p)=j by omega]
    rw[he]at h2;have e1:z (j+1-1)=z j:=rfl;rw[<-e1]at hG hA hs h2 Fb;generalize (List.range j).map z=Z at *;(repeat' ((first|(apply AH<;>intro hc<;>try (exfalso;omega))|apply EG|apply AE|refine AD (hA _ _) ?_)<;>conv=>whnf))
    refine FA (l:=Z) (z:=1) (bytes:=24) (enc:=λ r:List Rat=>[AV.sl false (r.map eQ)]) (z (j+1-1)) rfl hl.symm rfl (by omega) (by omega) ?_;rw[<-hs,fk];(conv=>whnf)
    (repeat' ((first|(apply AH<;>intro hc<;>try (exfalso;omega))|(apply AZ;omega)|refine AD (h1) ?_|refine AD (hG _) ?_|refine AD (h2) ?_)<;>conv=>whnf))
    exact BQ [(1000,27)] (ih (j+1) false (by omega) ⟨by omega,by simp⟩)
   ·have ez:j-p=j+1-p:=by omega
    have e1:z (j+1-1)=z j:=rfl;rw[<-e1]at hA hs Fb;rw[ez];generalize (List.range j).map z=Z at *;(repeat' ((first|(apply AH<;>intro hc<;>try (exfalso;omega))|apply EG|apply AE|refine AD (hA _ _) ?_)<;>conv=>whnf))
    refine FA (l:=Z) (z:=1) (bytes:=24) (enc:=λ r:List Rat=>[AV.sl false (r.map eQ)]) (z (j+1-1)) rfl hl.symm rfl (by omega) (by omega) ?_;rw[<-hs,fk];(conv=>whnf)
    (repeat' ((first|(apply AH<;>intro hc<;>try (exfalso;omega))|(apply AZ;omega))<;>conv=>whnf))
    exact BQ [(1000,27)] (ih (j+1) false (by omega) ⟨by omega,by simp⟩)
  ·have yx:j=0:=by simpa using p2.symm
   subst yx;have ez:DY D (λ m=>C1 (z (p+m))) (0+1-p)=0:=by rw[show 0+1-p=0 by omega];rfl
   (repeat' ((first|(apply AH<;>intro hc<;>try (exfalso;omega))|apply EG|apply AE)<;>conv=>whnf))
   refine P0 (enc:=λ r:List Rat=>[AV.sl false (r.map eQ)]) (z 0) rfl rfl (by omega) ?_;(conv=>whnf)
   (repeat' ((first|(apply AH<;>intro hc<;>try (exfalso;omega))|(apply AZ;omega))<;>conv=>whnf))
   rw[show [z 0]=(List.range (0+1)).map z from rfl];rw[<-ez];exact BQ [(1000,27)] (ih (0+1) false (by omega) ⟨by omega,by simp⟩)
 have ej:j=p+p:=by omega
 obtain rfl:fl=false:=by rw[p2];simp;omega
 clear ih p2;have hl:=ea j;rw[show j-p=p by omega];rw[<-ej]at az ⊢;(repeat' ((first|(apply AH<;>intro hc<;>try (exfalso;omega))|(refine DX (λ_=>rfl) rfl ?_ ?_;(first|rfl|simp))|apply AE)<;>conv=>whnf))
 exact AU rfl az
abbrev XG (m:List (List Rat)):List (List AV):=m.map λ r=>[AV.sl true (r.map (M4 true))]
theorem Jj (Z:List (List Rat)) (T:Rat):IW (.agg (QB Z T)) = .agg ([.sl true (XG Z)]++M4 true T):=by
 have hd : ∀ l:List Nat,H6 (l.map AJ)=l.map AJ:=λ l=>by
  induction l with
  | nil=>rfl
  | cons x l ih=>rw[List.map_cons,H6,ih];rfl
 have hq : ∀ x:Rat,GN (eQ x)=M4 true x:=λ x=>by
  show GN [.bool _,.sl false _,.sl false _]=_;simp only[GN,FH,hd]
 have hr : ∀ r:List Rat,H6 (r.map eQ)=r.map (M4 true):=λ r=>by
  induction r with
  | nil=>rfl
  | cons x r ih=>rw[List.map_cons,H6,ih,hq];rfl
 have hz : ∀ Z:List (List Rat),H6 (eM Z)=XG Z:=λ Z=>by
  induction Z with
  | nil=>rfl
  | cons r Z ih =>
   have Aj:H6 (Z.map λ r=>[AV.sl false (r.map eQ)])=Z.map λ r=>[AV.sl true (r.map (M4 true))]:=ih
   show H6 ([AV.sl false (r.map eQ)]::Z.map λ r=>[AV.sl false (r.map eQ)])=_;rw[H6,Aj];simp only[GN,FH,hr];rfl
 show AV.agg (GN (AV.sl false (eM Z)::eQ T))=_;rw[GN,hq];simp only[FH,hz];rfl
theorem xB (N:n7 L) (qr q:Bool) (R:List (List Rat)) (D T U:Rat) (P:Int) (c:List Rat) (z:Nat->List Rat) (n m kd kc kz kt:Nat) (hD:Bt kd D) (hc:Bs kc c) (n6:c.length=n) (mb : ∀ j,j<=128->Bs kz (z j)) (tc : ∀ j,(z j).length=n) (hT:Bt kt T)
  (hn:n<=4) (hm:m<=128) (k1:kc<=100000000) (k2:kd<=100000000) (k3:kz<=100000000) (k4:kt<=100000000000) :
  Ev L 305 [.agg (MG qr R D P U),.sl q (c.map eQ),.agg ([.sl true (XG ((List.range m).map z))]++M4 true T)] (.agg (eQ (DY D (λ j=>CJ (BP c (z j))) m+BG c*T))):=by
 have hO:=JA N.toa7 0 (by omega);rw[show ((0:Int):Rat)=0 from rfl]at hO;have ea:((List.range m).map z).length=m:=by simp
 have Rr : ∀ j,j<m->((List.range m).map z)[j]? = some (z j):=λ j hj=>by rw[List.getElem?_map,List.getElem?_range hj];rfl
 have w3 : ∀ j,j<=128->Bt (4*(kc+kz+1)) (BP c (z j)):=λ j hj=>(hc.dot (mb j hj)).le (Nat.mul_le_mul_right _ (by omega))
 have hH : ∀ t,t<=128->Bt (128*(kd+4*(kc+kz+1)+1)) (DY D (λ j=>CJ (BP c (z j))) t):=λ t ht=>(R6 hD t λ j hj=>NS (w3 j (by omega))).le (Nat.mul_le_mul_right _ ht)
 have kp:Bt (4*(kc+1)) (BG c):=(PP hc).le (Nat.mul_le_mul_right _ (by omega));generalize (List.range m).map z=Z at *;refine Ev.x N.KF rfl rfl ?_;(repeat' ((first|apply AW|apply AE|refine AD (hO) ?_)<;>conv=>whnf))
 refine CW (λ j=>m-j) (λ(j:Nat)=>j<=m) (λ j=>[(14,.int .i64 j)]) (λ j=>[(7,7,.bx (eQ (DY D (λ j=>CJ (BP c (z j))) j)))]) [] [] 0 (by (conv=>whnf);exact ⟨rfl,rfl,rfl⟩) (by omega) ?_;intro j p1 ih;by_cases hj:j<m
 ·have hr:=Rr j hj
  have mr:Z[(j:Int).toNat]? = some (z j):=hr;have h1:=M6 N.toa7 (hH j (by omega)) hD (by omega) (by omega);have hd:=λ q q'=>fY N q q' true c (z j) kc kz (by rw[n6,tc]) hc (mb j (by omega)) (by omega) (by omega) (by omega)
  have ha:=UF N.tov5 (w3 j (by omega)) (by omega);have h2:=O1 N.toa7 ((hH j (by omega)).mul hD) (NS (w3 j (by omega))) (by omega) (by omega);have Ow:Ev L 98 [.agg (eQ (DY D (λ j=>CJ (BP c (z j))) j*D)),.agg (eQ (CJ (BP c (z j))))] (.agg (eQ (DY D (λ j=>CJ (BP c (z j))) (j+1)))):=h2;clear h2 w3 hH kp;(repeat' ((first|(apply AH<;>intro hc<;>try (exfalso;omega))|(apply AZ;omega)|(refine BJ (by assumption) ?_ rfl ?_;omega)|apply AE|refine AD (h1) ?_|refine AD (hd _ _) ?_|refine AD (ha) ?_|refine AD (Ow) ?_)<;>conv=>whnf))
  exact BQ [] (ih (j+1) (by omega) (by omega))
 have ej:j=m:=by omega
 clear ih;rw[ej];have hS:=λ q=>gA N q c kc hc (by omega) (by omega)
 have h1:=fQ N.toa7 true kp hT (by omega) (by omega);have h2:=O1 N.toa7 (hH m hm) (kp.mul hT) (by omega) (by omega);(repeat' ((first|(apply AH<;>intro hc<;>try (exfalso;omega))|apply AE|refine AD (hS _) ?_|refine AD (h1) ?_|refine AD (h2) ?_)<;>conv=>whnf))
 exact AU rfl (C8 _)
end Go.c4
