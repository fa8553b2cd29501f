/-
  Direct forms (layer 23).
-/
import Derived.Test.YtplhdlbnneoobaaGreatB10
import Derived.Test.YtplhdlbnneoobaaGreatB7
import Derived.Test.YtplhdlbnneoobaaGreatB2
import Derived.Test.YtplhdlbnneoobaaGreatB3
import Derived.Test.YtplhdlbnneoobaaGreatB9
import Derived.Test.YtplhdlbnneoobaaGreatB8
import Derived.Test.YtplhdlbnneoobaaGreatB5
import Derived.ProofKit
import Derived.OpenShut
import Derived.ChangeOld
import Derived.WalkKit
import Derived.WideShapes
import Derived.ChangeArms
set_option linter.unusedSimpArgs false
set_option linter.unusedVariables false
set_option linter.unnecessarySimpa false
namespace Go.c6
open F
attribute [local irreducible] AA AF AX AC CN AR BA A6 BV BH CM EI BO AY B0 CJ AB A5 AH pw CQ CE C8 EA DP BT CP BU C7
variable {L:Lib}
set_option maxHeartbeats 4000000
theorem jQ (I:c7 L) (D:l6 L) (b a:List Int) (q1 q2:Bool) (d c:Wd) (hd:WV d) (hc:WV c) (l1:1<=b.length/\b.length<=49) (l2:a.length<=8) (hb : ∀ v∈b,FT c v) (ha : ∀ v∈a,FT c v/\FT c (-v)) :
  Ev L 46 [.sl q1 (b.map BW),.sl q2 (a.map BW),.agg (F3 d),.agg (F3 c)] (.int .i64 0):=by
 have hav : ∀ v∈a,-16777216<=v/\v<=16777216:=λ v hv=>by
  obtain ⟨_,e1,e2⟩:=(ha v hv).1;obtain ⟨h1,h2,h3,h4⟩:=MW hc;omega
 refine Ev.x D.MA rfl rfl ?_;(repeat' ((first|(apply AG<;>intro hc<;>try omega)|apply AP|apply AE|refine EE (Q6 ⟨_,_,_,_⟩ I) (λ hf => ?_) (λ hf => ?_))<;>conv=>whnf))
 all_goals try (exact absurd hd (by assumption))
 all_goals try (exact absurd hc (by assumption))
 refine D4 (λ i=>b.length-i) (λ(i:Nat)=>i<=b.length) (λ i=>[(36,.int .i64 i)]) (λ_=>[]) 0 (by omega) ?_;intro i p1 ih;(repeat' ((first|(apply AG<;>intro hc<;>try omega)|(apply AQ;omega)|apply AP|(refine IJ ?_ (λ_=>rfl) (λ e he => ?_);omega)|apply AE|refine EE (Q5 ⟨_,_,_,_⟩ I _) (λ hf => ?_) (λ hf => ?_))<;>conv=>whnf))
 ·exact BB [] (ih (i+1) (by omega) (by omega))
 ·exact absurd (hb _ (zM he)) hf
 refine D4 (λ i=>a.length-i) (λ(i:Nat)=>i<=a.length) (λ i=>[(47,.int .i64 i)]) (λ_=>[]) 0 (by omega) ?_;intro i p1 ih;(repeat' ((first|(apply AG<;>intro hc<;>try omega)|(refine IJ ?_ (λ_=>rfl) (λ e he => ?_);omega)|apply AE|refine EE (Q5 ⟨_,_,_,_⟩ I _) (λ hf => ?_) (λ hf => ?_))<;>conv=>whnf))
 ·have Tn:=hav _ (zM he)
  (repeat' ((first|(apply AQ;omega)|(apply CN.neg;omega)|refine EE (Q5 ⟨_,_,_,_⟩ I _) (λ hf => ?_) (λ hf => ?_))<;>conv=>whnf))
  ·exact BB [] (ih (i+1) (by omega) (by omega))
  ·exact absurd (ha _ (zM he)).2 hf
 ·exact absurd (ha _ (zM he)).1 hf
 ·exact B5 rfl
theorem iK (ts:List (Int × Int)):EV (ts.map IC):=S7 (λ_=>by simp [BS,AZ]) ts
def EG (l:List Int) (sg fr:Int):List (Int × Int):=(List.range l.length).map λ i:Nat=>(fr+i,sg*l.getD i 0)
theorem K9 (l:List Int) (sg fr:Int):(EG l sg fr).length=l.length:=by simp [EG]
theorem Aka {l:List Int} {i:Nat} {v:Int} (sg fr:Int) (h:l[i]? = some v):(EG l sg fr)[i]? = some (fr+i,sg*v):=by
 have hi:=(zS h).1;simp only[EG,List.getElem?_map,List.getElem?_range hi,Option.map_some,List.getD_eq_getElem?_getD,h,Option.getD_some]
theorem R8 (D:l6 L) (l:List Int) (q:Bool) (sg fr:Int) (hl:l.length<=1000000) (hs:sg=1\/sg = -1) (hf:0<=fr/\fr<=1000000) (hv : ∀ v∈l,-1000000000000<=v/\v<=1000000000000):Ev L 47 [.sl q (l.map BW),.int .i64 sg,.int .i64 fr] (.sl false ((EG l sg fr).map IC)):=by
 have hF:=K9 l sg fr;refine Ev.x D.L9 rfl rfl ?_;(repeat' ((first|apply AP|apply AE)<;>conv=>whnf))
 refine D9 (enc:=IC) (0,0) l.length rfl rfl (by omega) ?_;(conv=>whnf)
 (repeat' (apply AP<;>conv=>whnf))
 refine VU (λ i _=>l.length-i) (λ(i:Nat) (o:List (Int × Int))=>i<=l.length/\o.length=(EG l sg fr).length/\o.take i=(EG l sg fr).take i) (λ i o=>[(7,.row 12 0 2 0 o.length),(15,.int .i64 i)]) (λ i o=>[(12,12,.rw 2 (o.map IC))]) [] [] 0 (List.replicate l.length (0,0)) (by rw[List.length_replicate];exact (by (conv=>whnf);exact ⟨rfl,rfl,rfl⟩)) ⟨by omega,by simp [hF],by simp⟩ ?_;intro i o ⟨p1,p2,p3⟩ ih;by_cases hi:i<l.length
 ·obtain ⟨v,Ek⟩ : ∃ v,l[i]? = some v:=⟨_,zE hi⟩
  have El:=hv v (zM Ek);have hmul : -1000000000000<=sg*v/\sg*v<=1000000000000:=by rcases hs with rfl|rfl<;>omega
  obtain ⟨f1,f2⟩:=SB p2 p3 (Aka sg fr Ek);(repeat' ((first|(apply AG<;>intro hc<;>try omega)|(apply A2;omega)|(apply AQ;omega)|(apply FW;omega)|(refine A9 (by assumption) ?_ rfl ?_;omega)|apply AE)<;>conv=>whnf))
  refine KB (enc:=IC) (fr+i,sg*v) rfl (λ_=>rfl) (by omega) ?_;(conv=>whnf)
  (repeat' ((first|(apply AQ;omega)|fail)<;>conv=>whnf))
  exact BN [] (by rw[List.length_set];exact (by (conv=>whnf);exact ⟨rfl,rfl,rfl⟩)) (ih (i+1) (o.set i (fr+i,sg*v)) (by omega) ⟨by omega,f1,f2⟩)
 ·have ho:=YX p2 p3 (by omega)
  (repeat' ((first|(apply AG<;>intro hc<;>try omega)|(refine CZ (λ_=>rfl) rfl ?_ ?_;(first|rfl|simp))|apply AE)<;>conv=>whnf))
  exact AW (by rw[ho]) (by simp [AZ,iK])
def HX (l:List Nd):List (Int × Int):=l.flatMap λ n=>n.ts
theorem YO (D:l6 L) (l:List Nd) (q:Bool) (dj:(HX l).length<=1000000) (hl:l.length<=1000000):Ev L 48 [.sl q (l.map TC)] (.sl false ((HX l).map IC)):=by
 refine Ev.x D.L8 rfl rfl ?_;(repeat' ((first|apply AP|apply AE)<;>conv=>whnf))
 refine FU (λ i _=>l.length-i) (λ(i:Nat) (o:List (Int × Int))=>i<=l.length/\o=HX (l.take i)) (λ i o=>[(3,.row 3 0 2 0 o.length),(8,.int .i64 i)]) (λ i o=>[(3,3,.rw 2 (o.map IC))]) 0 [] ⟨by omega,rfl⟩ ?_;intro i o ⟨p1,p2⟩ ih;(repeat' ((first|(apply AG<;>intro hc<;>try omega)|(refine IJ ?_ (λ_=>rfl) (λ e he => ?_);omega)|(refine CZ (λ_=>rfl) rfl ?_ ?_;(first|rfl|simp))|apply AE)<;>conv=>whnf))
 ·have hj:HX (l.take (i+1))=o++e.ts:=by
   rw[List.take_add_one,he,p2];simp [HX]
  have hle:o.length+e.ts.length<=1000000:=by
   have:HX l=HX (l.take (i+1))++HX (l.drop (i+1)):=by
    unfold HX;rw[<-List.flatMap_append,List.take_append_drop]
   rw[this,hj]at dj;simp at dj;omega
  refine aD (enc:=IC) rfl (λ_=>rfl) (by omega) (by omega) ?_;(conv=>whnf)
  (repeat' ((first|(apply AQ;omega)|fail)<;>conv=>whnf))
  exact BN [(3,14)] (by (conv=>whnf);exact ⟨rfl,rfl,rfl⟩) (ih (i+1) _ (by omega) ⟨by omega,hj.symm⟩)
 ·rw[zT (by omega)]at p2
  exact AW (by rw[p2]) (by simp [AZ,iK])
theorem qZ : ∀ (l:List Nd),(∀ n∈l,n.q=false)->EV (l.map TC)
 | [],_=>by simp [EV]
 | n::r,h=>by
  simp only[List.map_cons,EV,BS,AZ,and_true];exact ⟨⟨h n (by simp),iK _⟩,qZ r λ m hm=>h m (List.mem_cons_of_mem _ hm)⟩
theorem tH (n:Nt) (h1:n.qn=false) (h2:n.qx=false) (h3 : ∀ m∈n.nodes,m.q=false):BS (CO n):=by
 simp only[BS,AZ,true_and,and_true];exact ⟨⟨h1,qZ _ h3⟩,h2,V7 _⟩
theorem WZ (n:Nt) (h1:n.qn=false) (h2:n.qx=false) (h3 : ∀ m∈n.nodes,m.q=false):AZ (.g8 [.agg (CO n),.int .i64 0]):=by
 have h:=tH n h1 h2 h3;simp only[AZ,BS,and_true,true_and]at h ⊢;exact h
def H8 (n:Nat) (first source:Int):List Int:=(List.range n).map λ i:Nat=>if i=0 then source else first+i-1
theorem iU {n i:Nat} {first source:Int} (h:i<n):(H8 n first source)[i]? = some (if i=0 then source else first+i-1):=by
 simp only[H8,List.getElem?_map,List.getElem?_range h,Option.map_some]
theorem T4 {c:Wd} (hc:WV c) {v:Int} (h:FT c v) : -1000000000000<=v/\v<=1000000000000:=by
 obtain ⟨_,e1,e2⟩:=h;obtain ⟨h1,h2,h3,h4⟩:=MW hc;omega
def GW (b a:List Int) (d c:Wd):Nt :=
 ⟨d,c,((b.length-1+a.length:Nat):Int),false,[⟨false,EG b 1 0++EG a (-1) b.length⟩],false,H8 (b.length-1) 1 0++H8 a.length b.length ((b.length+a.length:Nat):Int),((b.length+a.length:Nat):Int)⟩
theorem Agl (I:c7 L) (D:l6 L) (b a:List Int) (q1 q2:Bool) (d c:Wd) (hd:WV d) (hc:WV c) (l1:1<=b.length/\b.length<=49) (l2:a.length<=8) (hb : ∀ v∈b,FT c v) (ha : ∀ v∈a,FT c v/\FT c (-v)) :
  Ev L 50 [.sl q1 (b.map BW),.sl q2 (a.map BW),.agg (F3 d),.agg (F3 c)] (.g8 [.agg (CO (GW b a d c)),.int .i64 0]):=by
 have hw:=λ q q'=>jQ I D b a q q' d c hd hc l1 l2 hb ha
 have r1:=λ q=>R8 D b q 1 0 (by omega) (Or.inl rfl) (by omega) (λ v hv=>T4 hc (hb v hv))
 have r2:=λ q=>R8 D a q (-1) ((b.length:Int)-1+1) (by omega) (Or.inr rfl) (by omega) (λ v hv=>T4 hc (ha v hv).1)
 have r3:=λ q q' Ex=>YO D [⟨q,EG b 1 0⟩,⟨q',EG a (-1) ((b.length:Int)-1+1)⟩] Ex (by simp [HX,K9];omega) (by simp)
 generalize hF:H8 (b.length-1) 1 0++H8 a.length b.length ((b.length+a.length:Nat):Int)=F;have uc:F.length=b.length-1+a.length:=by rw[<-hF];simp [H8]
 have xu : ∀ i:Nat,i<b.length-1->F[i]? = some (if i=0 then (0:Int) else 1+i-1):=λ i hi=>by
  rw[<-hF,List.getElem?_append_left (by simp [H8];omega)];exact iU hi
 have Si : ∀ i:Nat,i<a.length->F[b.length-1+i]? = some (if i=0 then ((b.length+a.length:Nat):Int) else b.length+i-1):=λ i hi=>by
  rw[<-hF,List.getElem?_append_right (by simp [H8])];have:b.length-1+i-(H8 (b.length-1) 1 0).length=i:=by simp [H8]
  rw[this];exact iU hi
 refine Ev.x D.L5 rfl rfl ?_;(repeat' ((first|(apply AG<;>intro hc<;>try omega)|(apply AQ;omega)|(apply BL;omega)|apply AP|apply AE|refine AD (hw _ _) ?_)<;>conv=>whnf))
 refine D9 (enc:=BW) 0 (b.length-1+a.length) rfl (by omega) (by omega) ?_;(conv=>whnf)
 (repeat' ((first|(apply AQ;omega)|refine J9 rfl rfl ?_|refine AD (r1 _) ?_|refine AD (r2 _) ?_|refine AD (r3 _ _ _) ?_)<;>conv=>whnf))
 refine H5 (b.length-1) (by omega) (by omega) ?_;(conv=>whnf)
 refine HR 1000 D.JO rfl rfl ?_;(repeat' (apply AE<;>conv=>whnf))
 refine FU (λ i _=>b.length-1-i) (λ(i:Nat) (o:List Int)=>i<=b.length-1/\o.length=F.length/\o.take i=F.take i) (λ i o=>[(9,.int .i64 i)]) (λ i o=>[(34,34,.rw 1 (o.map BW))]) 0 (List.replicate (b.length-1+a.length) 0) ⟨by omega,by simp [uc],by simp⟩ ?_;intro i o ⟨p1,p2,p3⟩ ih;(repeat' ((first|(apply AG<;>intro hc<;>try omega)|(apply A2;omega)|(apply AQ;omega)|(apply BL;omega)|apply AE)<;>conv=>whnf))
 ·obtain ⟨f1,f2⟩:=SB p2 p3 (xu i (by omega))
  refine KA i (if i=0 then (0:Int) else 1+i-1) (by omega) (by rw[if_pos (by omega)]) (λ_=>rfl) (by omega) ?_;(conv=>whnf)
  (repeat' ((first|(apply AQ;omega)|fail)<;>conv=>whnf))
  exact BN [] (by (conv=>whnf);exact ⟨rfl,rfl,rfl⟩) (ih (i+1) _ (by omega) ⟨by omega,f1,f2⟩)
 ·obtain ⟨f1,f2⟩:=SB p2 p3 (xu i (by omega))
  refine KA i (if i=0 then (0:Int) else 1+i-1) (by omega) (by rw[if_neg (by omega)]) (λ_=>rfl) (by omega) ?_;(conv=>whnf)
  (repeat' ((first|(apply AQ;omega)|fail)<;>conv=>whnf))
  exact BN [] (by (conv=>whnf);exact ⟨rfl,rfl,rfl⟩) (ih (i+1) _ (by omega) ⟨by omega,f1,f2⟩)
 obtain rfl:i=b.length-1:=by omega
 refine ⟨rfl,_,rfl,?_⟩;(conv=>whnf)
 skip
 refine Wq (b.length-1) (by omega) (by omega) ?_;(conv=>whnf)
 (repeat' ((first|(apply AQ;omega)|fail)<;>conv=>whnf))
 refine HR 1000 D.JO rfl rfl ?_;(repeat' (apply AE<;>conv=>whnf))
 refine FU (λ i _=>a.length-i) (λ(i:Nat) (o:List Int)=>i<=a.length/\o.length=F.length/\o.take (b.length-1+i)=F.take (b.length-1+i)) (λ i o=>[(9,.int .i64 i)]) (λ i o=>[(34,34,.rw 1 (o.map BW))]) 0 o ⟨by omega,p2,p3⟩ ?_;clear p1 p2 p3 ih;intro i o ⟨p1,p2,p3⟩ ih;(repeat' ((first|(apply AG<;>intro hc<;>try omega)|(apply A2;omega)|(apply AQ;omega)|(apply BL;omega)|apply AE)<;>conv=>whnf))
 ·obtain ⟨f1,f2⟩:=SB p2 p3 (Si i (by omega))
  refine KA (b.length-1+i) (if i=0 then ((b.length+a.length:Nat):Int) else b.length+i-1) (by omega) (by rw[if_pos (by omega)];simp only[List.cons.injEq,AV.int.injEq,true_and,and_true];omega) (λ_=>rfl) (by omega) ?_;(conv=>whnf)
  (repeat' ((first|(apply AQ;omega)|fail)<;>conv=>whnf))
  exact BN [] (by (conv=>whnf);exact ⟨rfl,rfl,rfl⟩) (ih (i+1) _ (by omega) ⟨by omega,f1,f2⟩)
 ·obtain ⟨f1,f2⟩:=SB p2 p3 (Si i (by omega))
  refine KA (b.length-1+i) (if i=0 then ((b.length+a.length:Nat):Int) else b.length+i-1) (by omega) (by rw[if_neg (by omega)];simp only[List.cons.injEq,AV.int.injEq,true_and,and_true];omega) (λ_=>rfl) (by omega) ?_;(conv=>whnf)
  (repeat' ((first|(apply AQ;omega)|fail)<;>conv=>whnf))
  exact BN [] (by (conv=>whnf);exact ⟨rfl,rfl,rfl⟩) (ih (i+1) _ (by omega) ⟨by omega,f1,f2⟩)
 have ho:=YX p2 p3 (by omega);subst ho;refine ⟨rfl,_,rfl,?_⟩;(conv=>whnf)
 (repeat' (refine GA rfl ?_<;>conv=>whnf))
 refine CZ (enc:=BW) (λ_=>rfl) rfl uc.symm ?_;(conv=>whnf)
 skip
 have e1:(b.length:Int)-1+1=b.length:=by omega
 have e2:(b.length:Int)-1+a.length=((b.length-1+a.length:Nat):Int):=by omega
 have e3:(b.length:Int)-1+a.length+1=((b.length+a.length:Nat):Int):=by omega
 refine AW ?_ ?_
 ·rw[e1,e3,e2]
  simp only[GW,hF,List.map_cons,List.map_nil,HX,List.flatMap_cons,List.flatMap_nil,List.append_nil];rfl
 ·exact WZ (GW b a d c) rfl rfl (by simp [GW])
def CH (b a:List Int):Nat:=max (b.length-1) a.length
def GX (b a:List Int) (d c:Wd):Nt :=
 ⟨d,c,(CH b a:Int),false,[⟨false,EG [pw c.f] 1 0++EG a (-1) 1⟩,⟨false,EG (b.take 1) 1 (CH b a+1)++EG (b.drop 1) 1 1⟩],false,H8 (CH b a) 1 (CH b a+1),CH b a+1+1⟩
theorem Agm (I:c7 L) (D:l6 L) (b a:List Int) (q1 q2:Bool) (d c:Wd) (hd:WV d) (hc:WV c) (l1:1<=b.length/\b.length<=49) (l2:a.length<=8) (hb : ∀ v∈b,FT c v) (ha : ∀ v∈a,FT c v/\FT c (-v)) :
  Ev L 51 [.sl q1 (b.map BW),.sl q2 (a.map BW),.agg (F3 d),.agg (F3 c)] (.g8 [.agg (CO (GX b a d c)),.int .i64 0]):=by
 have hw:=λ q q'=>jQ I D b a q q' d c hd hc l1 l2 hb ha
 have s9:=hc;unfold WV at s9;have Gq:=K0 (n:=c.f) (m:=23) (by omega);have rn:pw 23=8388608:=by unfold pw;rfl
 have pj:=E0 c.f;have r1:=λ q=>R8 D [pw c.f] q 1 0 (by simp) (Or.inl rfl) (by omega) (by simp;omega)
 have r2:=λ q=>R8 D a q (-1) 1 (by omega) (Or.inr rfl) (by omega) (λ v hv=>T4 hc (ha v hv).1)
 have r3:=λ q=>R8 D (b.take 1) q 1 (CH b a+1) (by simp;omega) (Or.inl rfl) (by unfold CH;omega) (λ v hv=>T4 hc (hb v (List.mem_of_mem_take hv)))
 have r4:=λ q=>R8 D (b.drop 1) q 1 1 (by simp;omega) (Or.inl rfl) (by omega) (λ v hv=>T4 hc (hb v (List.mem_of_mem_drop hv)))
 have j1:=λ q q' Ex=>YO D [⟨q,EG [pw c.f] 1 0⟩,⟨q',EG a (-1) 1⟩] Ex (by simp [HX,K9];omega) (by simp)
 have j2:=λ q q' Ex=>YO D [⟨q,EG (b.take 1) 1 (CH b a+1)⟩,⟨q',EG (b.drop 1) 1 1⟩] Ex (by simp [HX,K9];omega) (by simp)
 generalize hF:H8 (CH b a) 1 ((CH b a:Int)+1)=F;have uc:F.length=CH b a:=by rw[<-hF];simp [H8]
 have xu : ∀ i:Nat,i<CH b a->F[i]? = some (if i=0 then ((CH b a:Int)+1) else 1+i-1):=λ i hi=>by
  rw[<-hF];exact iU hi
 have gi:(CH b a:Int)<=1000:=by unfold CH;omega
 refine Ev.x D.L6 rfl rfl ?_;(repeat' ((first|(apply AG<;>intro hc<;>try omega)|(apply AQ;omega)|(apply BL;omega)|apply AP|apply AE|refine AD (hw _ _) ?_)<;>conv=>whnf))
 all_goals first|rw[show (a.length:Int)=(CH b a:Int) by unfold CH;omega]|rw[show (b.length:Int)-1=(CH b a:Int) by unfold CH;omega]
 all_goals (
  generalize hmm:CH b a=mx at *;refine D9 (enc:=BW) 0 mx rfl rfl (by omega) ?_;(conv=>whnf)
  (repeat' ((first|(apply AQ;omega)|(refine FX ?_ (λ_ _ => ?_);omega)|refine GA rfl ?_|refine J9 rfl rfl ?_|refine AD (r1 _) ?_|refine AD (r2 _) ?_|refine AD (j1 _ _ _) ?_)<;>conv=>whnf))
  refine LY (k:=1) (λ_=>rfl) (by omega) ?_;(conv=>whnf)
  (repeat' (refine AD (r3 _) ?_<;>conv=>whnf))
  refine pU (k:=1) (λ_=>rfl) (by omega) ?_;(conv=>whnf)
  (repeat' ((first|refine J9 rfl rfl ?_|refine AD (r4 _) ?_|refine AD (j2 _ _ _) ?_)<;>conv=>whnf))
  refine HR 1000 D.JO rfl rfl ?_;(repeat' (apply AE<;>conv=>whnf))
  refine FU (λ i _=>mx-i) (λ(i:Nat) (o:List Int)=>i<=mx/\o.length=F.length/\o.take i=F.take i) (λ i o=>[(9,.int .i64 i)]) (λ i o=>[(36,36,.rw 1 (o.map BW))]) 0 (List.replicate mx 0) ⟨by omega,by simp [uc],by simp⟩ ?_;intro i o ⟨p1,p2,p3⟩ ih;(repeat' ((first|(apply AG<;>intro hc<;>try omega)|(apply A2;omega)|(apply AQ;omega)|(apply BL;omega)|apply AE)<;>conv=>whnf))
  ·obtain ⟨f1,f2⟩:=SB p2 p3 (xu i (by omega))
   refine KA i (if i=0 then ((mx:Int)+1) else 1+i-1) (by omega) (by rw[if_pos (by omega)]) (λ_=>rfl) (by omega) ?_;(conv=>whnf)
   (repeat' ((first|(apply AQ;omega)|fail)<;>conv=>whnf))
   exact BN [] (by (conv=>whnf);exact ⟨rfl,rfl,rfl⟩) (ih (i+1) _ (by omega) ⟨by omega,f1,f2⟩)
  ·obtain ⟨f1,f2⟩:=SB p2 p3 (xu i (by omega))
   refine KA i (if i=0 then ((mx:Int)+1) else 1+i-1) (by omega) (by rw[if_neg (by omega)]) (λ_=>rfl) (by omega) ?_;(conv=>whnf)
   (repeat' ((first|(apply AQ;omega)|fail)<;>conv=>whnf))
   exact BN [] (by (conv=>whnf);exact ⟨rfl,rfl,rfl⟩) (ih (i+1) _ (by omega) ⟨by omega,f1,f2⟩)
  have ho:=YX p2 p3 (by omega);subst ho;refine ⟨rfl,_,rfl,?_⟩;(conv=>whnf)
  (repeat' (refine J9 rfl rfl ?_<;>conv=>whnf))
  refine CZ (enc:=BW) (λ_=>rfl) rfl uc.symm ?_;(conv=>whnf)
  refine AW ?_ ?_
  ·simp only[GX,hF,hmm,List.map_cons,List.map_nil,HX,List.flatMap_cons,List.flatMap_nil,List.append_nil]
   rfl
  ·exact WZ (GX b a d c) rfl rfl (by simp [GX]))
theorem yA {A B C:List (Int × Int)} (h:A.length<=100) (h2:B.length+C.length<=1000):(A++B).length+C.length<=1000000:=by rw[List.length_append];omega
theorem uE (D:l6 L) (A B:List (Int × Int)) (q q1 q2:Bool) (h:A.length+B.length<=1000000):Ev L 48 [.sl q [[.sl q1 (A.map IC)],[.sl q2 (B.map IC)]]] (.sl false ((A++B).map IC)):=by
 have:=YO D [⟨q1,A⟩,⟨q2,B⟩] q (by simpa [HX] using h) (by simp)
 simpa [HX] using this
theorem uD (D:l6 L) (B:List (Int × Int)) (q q1 q2:Bool) (h:B.length<=1000000):Ev L 48 [.sl q [[.sl q1 []],[.sl q2 (B.map IC)]]] (.sl false (B.map IC)):=by
 have:=YO D [⟨q1,[]⟩,⟨q2,B⟩] q (by simpa [HX] using h) (by simp)
 rw[show HX [⟨q1,[]⟩,⟨q2,B⟩]=B by simp [HX]]at this;exact this
def RO (b a:List Int) (c:Wd) (mx k:Nat):List (Int × Int) :=
 (if k<b.length then EG ((b.take (k+1)).drop k) 1 0 else [])++(if 1<=k/\k<=a.length then EG ((a.take k).drop (k-1)) (-1) (mx+1) else [])++(if k<mx then EG [pw c.f] 1 (k+1) else [])
def JE (b a:List Int) (c:Wd) (mx k:Nat):List Nd:=(List.range k).map λ i=>⟨false,RO b a c mx i⟩
def G2 (b a:List Int) (d c:Wd):Nt :=
 ⟨d,c,(CH b a:Int),false,JE b a c (CH b a) (CH b a+1),false,(List.range (CH b a)).map λ i:Nat=>(CH b a:Int)+1+(i+1:Nat),CH b a+1⟩
theorem Pr (b a:List Int) (c:Wd) (mx k:Nat):JE b a c mx (k+1)=JE b a c mx k++[⟨false,RO b a c mx k⟩]:=Oi _ _
set_option maxHeartbeats 40000000 in
theorem Agn (I:c7 L) (D:l6 L) (b a:List Int) (q1 q2:Bool) (d c:Wd) (hd:WV d) (hc:WV c) (l1:1<=b.length/\b.length<=49) (l2:a.length<=8) (hb : ∀ v∈b,FT c v) (ha : ∀ v∈a,FT c v/\FT c (-v)) :
  Ev L 52 [.sl q1 (b.map BW),.sl q2 (a.map BW),.agg (F3 d),.agg (F3 c)] (.g8 [.agg (CO (G2 b a d c)),.int .i64 0]):=by
 have hw:=λ q q'=>jQ I D b a q q' d c hd hc l1 l2 hb ha
 have s9:=hc;unfold WV at s9;have Gq:=K0 (n:=c.f) (m:=23) (by omega);have rn:pw 23=8388608:=by unfold pw;rfl
 have pj:=E0 c.f;have hx1:b.length<=CH b a+1:=by unfold CH;omega
 have Ll:a.length<=CH b a:=by unfold CH;omega
 have En : ∀ k,k<=CH b a->k<b.length\/(1<=k/\k<=a.length):=by unfold CH;omega
 have ru:=λ(q:Bool) (k:Nat) (hk:k<=1000)=>R8 D [pw c.f] q 1 (k+1) (by simp) (Or.inl rfl) (by omega) (by simp;omega)
 have rb:=λ(q:Bool) (i j:Nat)=>R8 D ((b.take j).drop i) q 1 0 (by simp;omega) (Or.inl rfl) (by omega) (λ v hv=>T4 hc (hb v (List.mem_of_mem_take (List.mem_of_mem_drop hv))))
 have gi:(CH b a:Int)<=1000:=by unfold CH;omega
 have ra:=λ(q:Bool) (i j:Nat)=>R8 D ((a.take j).drop i) q (-1) (CH b a+1) (by simp;omega) (Or.inr rfl) (by omega) (λ v hv=>T4 hc (ha v (List.mem_of_mem_take (List.mem_of_mem_drop hv))).1)
 have hS:G2 b a d c=⟨d,c,(CH b a:Int),false,JE b a c (CH b a) (CH b a+1),false,(List.range (CH b a)).map λ i:Nat=>(CH b a:Int)+1+(i+1:Nat),CH b a+1⟩:=rfl;have n6:=WZ (G2 b a d c) rfl rfl (by simp [G2,JE]);refine Ev.x D.L7 rfl rfl ?_;(repeat' ((first|(apply AG<;>intro hc<;>try omega)|(apply AQ;omega)|(apply BL;omega)|apply AP|apply AE|refine AD (hw _ _) ?_)<;>conv=>whnf))
 all_goals first|rw[show (a.length:Int)=(CH b a:Int) by unfold CH;omega]|rw[show (b.length:Int)-1=(CH b a:Int) by unfold CH;omega]
 all_goals (
  generalize CH b a=mx at *;generalize hF:((List.range mx).map λ i:Nat=>(mx:Int)+1+(i+1:Nat))=F at *;have uc:F.length=mx:=by rw[<-hF];simp
  have xu : ∀ i:Nat,i<mx->F[i]? = some ((mx:Int)+1+(i+1:Nat)):=λ i hi=>by
   rw[<-hF,List.getElem?_map,List.getElem?_range hi];rfl
  refine D9 (enc:=BW) 0 mx rfl rfl (by omega) ?_;(conv=>whnf)
  (repeat' ((first|(apply AQ;omega)|(refine FX ?_ (λ_ _ => ?_);omega))<;>conv=>whnf))
  refine gD (λ k _ _ _=>mx+1-k) (λ(k:Nat) (ns:List Nd) (o:List Int) (fl:Bool)=>k<=mx+1/\ns=JE b a c mx k/\fl=decide (k=0)/\o.length=F.length/\o.take (k-1)=F.take (k-1)) (λ k ns o fl=>[(47,.int .i64 k)]) (λ k ns o fl=>bif fl then [(38,38,.rw 1 (o.map BW))] else [(13,13,.bx [.int .i64 d.b,.int .i64 d.f,.int .i64 d.r,.int .i64 d.o,.int .i64 c.b,.int .i64 c.f,.int .i64 c.r,.int .i64 c.o,.int .i64 mx,.row 1000 0 1 0 ns.length,.row 38 0 1 0 mx,.int .i64 (mx+1)]),(1000,106,.rw 1 (ns.map TC)),(38,38,.rw 1 (o.map BW))]) [] [] 0 [] (List.replicate mx 0) true (by (conv=>whnf);exact ⟨rfl,rfl,rfl⟩) ⟨by omega,rfl,rfl,by simp [uc],by simp⟩ ?_;intro k ns o fl ⟨p1,p2,p3,p4,p5⟩ ih;by_cases hk:k<=mx
  ·have gy:=En k hk
   have dd:RO b a c mx k=(if k<b.length then EG ((b.take (k+1)).drop k) 1 0 else [])++(if 1<=k/\k<=a.length then EG ((a.take k).drop (k-1)) (-1) (mx+1) else [])++(if k<mx then EG [pw c.f] 1 (k+1) else []):=rfl;have Vq:=λ q=>rb q (k:Int).toNat ((k:Int)+1).toNat
   have ra1:=λ q=>ra q ((k:Int)-1).toNat (k:Int).toNat
   have Vt:=λ q=>ru q k (by omega)
   have e1:((k:Int)+1).toNat=k+1:=by omega
   have e2:(k:Int).toNat=k:=by omega
   have e3:((k:Int)-1).toNat=k-1:=by omega
   have Dl:(JE b a c mx k).length=k:=by simp [JE]
   have dj:=K9 (List.drop (k:Int).toNat (List.take ((k:Int)+1).toNat b)) 1 0;have du:=K9 (List.drop ((k:Int)-1).toNat (List.take (k:Int).toNat a)) (-1) (mx+1);have Gl:=K9 [pw c.f] 1 (k+1);simp only[List.length_drop,List.length_take,List.length_cons,List.length_nil]at dj du Gl;have ew:ns.length=k:=by rw[p2];exact Dl
   have hE : ∀ X,X=RO b a c mx k->[AV.sl false (X.map IC)]=TC ⟨false,RO b a c mx k⟩:=λ X h=>by rw[h]
   cases fl
   ·have hk1:1<=k:=by
     rcases k with _|k
     ·simp at p3
     ·omega
    (repeat' ((first|(apply AG<;>intro hc<;>try omega)|(apply A2;omega)|(apply AQ;omega)|(apply BL;omega)|apply AP|(refine aS (λ_=>rfl) (gE ?_ ?_);omega)|refine GA rfl ?_|refine J9 rfl rfl ?_|refine pV rfl ?_|apply AE|refine AD (Vq _) ?_|refine AD (ra1 _) ?_|refine AD (Vt _) ?_|refine AD (uD D _ _ _ _ (by omega)) ?_|refine AD (uE D _ _ _ _ _ (by first|omega|exact yA (by omega) (by omega))) ?_)<;>conv=>whnf))
    all_goals (
     obtain ⟨f1,f2⟩:=SB (i:=k-1) p4 p5 (xu (k-1) (by omega));refine KA (k-1) ((mx:Int)+1+((k-1+1:Nat):Int)) (by omega) (by rw[show k-1+1=k by omega]) (λ_=>rfl) (by omega) ?_;(conv=>whnf)
     (repeat' (apply DQ<;>conv=>whnf))
     refine FA (enc:=TC) ⟨false,RO b a c mx k⟩ (hE _ ?_) rfl rfl (by omega) (by omega) ?_
     ·rw[dd]
      split<;>split<;>split<;>first|(exfalso;omega)|simp only[List.append_nil,List.nil_append,List.append_assoc,e1,e2,e3]
     ·(conv=>whnf)
      (repeat' ((first|(apply AQ;omega)|fail)<;>conv=>whnf))
      exact BN [(1000,106)] (by (conv=>whnf);exact ⟨rfl,rfl,rfl⟩) (ih (k+1) _ _ false (by omega) ⟨by omega,by rw[Pr,p2],by simp,f1,by rw[show k+1-1=k-1+1 by omega];exact f2⟩))
   ·have Kd:k=0:=by simpa using p3
    (repeat' ((first|(apply AG<;>intro hc<;>try omega)|(apply AQ;omega)|apply AP|(refine aS (λ_=>rfl) (gE ?_ ?_);omega)|apply DQ|refine GA rfl ?_|refine J9 rfl rfl ?_|refine pV rfl ?_|apply AE|refine AD (Vq _) ?_|refine AD (Vt _) ?_|refine AD (uD D _ _ _ _ (by omega)) ?_|refine AD (uE D _ _ _ _ _ (by first|omega|exact yA (by omega) (by omega))) ?_)<;>conv=>whnf))
    all_goals (
     refine SY (enc:=TC) ⟨false,RO b a c mx k⟩ (hE _ ?_) rfl (by omega) ?_
     ·rw[dd]
      split<;>split<;>split<;>first|(exfalso;omega)|simp only[List.append_nil,List.nil_append,List.append_assoc,e1,e2,e3]
     ·(conv=>whnf)
      (repeat' ((first|(apply AQ;omega)|fail)<;>conv=>whnf))
      exact BB [(1000,106)] (ih (k+1) [⟨false,RO b a c mx k⟩] o false (by omega) ⟨by omega,by rw[Pr,Kd];rfl,by simp,p4,by rw[Kd];rfl⟩))
  ·obtain rfl:k=mx+1:=by omega
   cases fl
   ·(repeat' ((first|(apply AG<;>intro hc<;>try omega)|(refine CZ (λ_=>rfl) rfl ?_ ?_;(first|rfl|simp))|apply AE)<;>conv=>whnf))
    have ho:=YX p4 p5 (by omega);subst ho;refine CZ (enc:=BW) (λ_=>rfl) rfl uc.symm ?_;(conv=>whnf)
    skip
    refine AW ?_ n6;rw[hS,p2]
   ·simp at p3)
end Go.c6
namespace Go.c6
open F
attribute [local irreducible] AA AF AX AC CN AR BA A6 BV BH CM EI BO AY B0 CJ AB A5 AH pw CQ CE C8 EA DP BT CP BU C7
variable {L:Lib}
variable (b a:List Int) (d c:Wd)
variable {b a d c}
set_option maxHeartbeats 4000000
end Go.c6

namespace Go.c6
open F
attribute [local irreducible] AA AF AX AC CN AR BA A6 BV BH CM EI BO AY B0 CJ AB A5 AH pw CQ CE C8 EA DP BT CP BU C7
variable {L:Lib}
set_option maxHeartbeats 8000000
end Go.c6

namespace Go.c6
open F
attribute [local irreducible] AA AF AX AC CN AR BA A6 BV BH CM EI BO AY B0 CJ AB A5 AH pw CQ CE C8 EA DP BT CP BU C7
set_option maxHeartbeats 4000000
variable {L:Lib}
section
variable (n:Nt)
end
end Go.c6

namespace Go.c6
open F
attribute [local irreducible] AA AF AX AC CN AR BA A6 BV BH CM EI BO AY B0 CJ AB A5 AH pw CQ CE C8 EA DP BT CP BU C7
variable {L:Lib}
set_option maxHeartbeats 4000000
end Go.c6

namespace Go.c6
theorem pH {R:List (Option (Nat × List (List AV)))} {i e z:Nat} {es:List (List AV)} {K:Option (Nat × List (List AV))->Prop} (he:e=i) (hi:i<R.length) (h:K (some (z,es))):CQ (R.set i (some (z,es))) e K:=by
 subst he;exact ⟨_,by rw[List.getElem?_set,if_pos rfl,if_pos hi],h⟩
theorem pG {R:List (Option (Nat × List (List AV)))} {i e z:Nat} {es:List (List AV)} {K:Nat->List (List AV)->Prop} (he:e=i) (hi:i<R.length) (h:K z es):CE (R.set i (some (z,es))) e K:=by
 subst he;exact ⟨z,es,by rw[List.getElem?_set,if_pos rfl,if_pos hi],h⟩
theorem XZ {R:List (Option (Nat × List (List AV)))} {i e z:Nat} {es:List (List AV)} {K:List (Option (Nat × List (List AV)))->Prop} (he:e=i) (hi:i<R.length) (h:K (R.set i (some (z,es)))):C8 R e z es K:=by
 subst he;exact ⟨hi,h⟩
def hQ (S:FE):Nat->Rat
 | 0=>S.d
 | j+1=>A3 S.c (wQ S j)
theorem Alp {r:List Rat} (h:RP r=r) (hn:r.length≠0):r.getD (r.length-1) 0≠0:=by
 have hl:=Ps r;rw[h]at hl;obtain ⟨n,nx⟩ : ∃ n,r.length=n+1:=⟨r.length-1,by omega⟩;rw[nx,I5]at hl;rw[nx,Nat.add_sub_cancel];intro h0;rw[if_pos h0]at hl;have:=YB r n
 omega
def GD (B A:List Rat) (n:Nat):FE where
 a:=(List.range n).map λ i=>if i=0 then (List.range n).map λ k => -(A.getD (k+1) 0) else B8 n ((i-1:Nat):Int)
 b:=B8 n 0
 c:=(List.range n).map λ i=>B.getD (i+1) 0-B.getD 0 0*A.getD (i+1) 0
 d:=B.getD 0 0
def A4 (x:Rat):Rat:=if x.num<0 then -x else x
end Go.c6

namespace Go.c6
section
variable {M ky:Nat} {g:List Pt}
end
end Go.c6

namespace Go.c6
end Go.c6

namespace Go.c6
def KO (vals:List Int):List (Int × Int)->Int
 | []=>0
 | t::ts=>t.2*vals.getD t.1.toNat 0+KO vals ts
theorem Rc (vals:List Int) (hv : ∀ v∈vals,-8388608<=v/\v<=8388608) : ∀ (ts:List (Int × Int)) (acc:Int) (k:Nat),(∀ t∈ts,-16777216<=t.2/\t.2<=16777216)->k+ts.length<=1000 -> -140737488355328*k<=acc/\acc<=140737488355328*k->QD vals acc ts=acc+KO vals ts
 | [],acc,k,_,_,_=>by simp [QD,KO]
 | t::ts,acc,k,ht,hk,ha=>by
  have h1:=ht t (by simp);have h2 : -8388608<=vals.getD t.1.toNat 0/\vals.getD t.1.toNat 0<=8388608:=by
   rw[List.getD_eq_getElem?_getD];cases h:vals[t.1.toNat]? with
   | none=>simp
   | some v=>exact hv v (zM h)
  have h3 : -140737488355328<=t.2*vals.getD t.1.toNat 0/\t.2*vals.getD t.1.toNat 0<=140737488355328:=by
   generalize vals.getD t.1.toNat 0=v at *;obtain ⟨a1,a2⟩:=h1;obtain ⟨b1,b2⟩:=h2;have:=Int.natAbs_mul t.2 v
   have e1:t.2.natAbs<=16777216:=by omega
   have e2:v.natAbs<=8388608:=by omega
   have e3:=Nat.mul_le_mul e1 e2;omega
  have hl:k+1+ts.length<=1000:=by simp at hk;omega
  simp only[QD,KO];rw[IntWalk.i64_in (t.2*vals.getD t.1.toNat 0) (by omega),IntWalk.i64_in _ (by omega)];rw[Rc vals hv ts _ (k+1) (λ t h=>ht t (List.mem_cons_of_mem _ h)) hl (by omega)];omega
theorem VW {w:Wd} {v:Int} (h:FT w v) : -8388608<=v/\v<=8388608:=by
 obtain ⟨hw,e1,e2⟩:=h;obtain ⟨h1,h2,h3,h4⟩:=MW hw;omega
theorem U1 {l:List Int} {sg fr:Int} {t:Int × Int} (h:t∈EG l sg fr) : ∃ i:Nat,∃ v∈l,i<l.length/\t=(fr+i,sg*v):=by
 simp only[EG,List.mem_map,List.mem_range]at h;obtain ⟨i,hi,rfl⟩:=h;exact ⟨i,l[i],List.getElem_mem hi,hi,by simp [List.getD_eq_getElem?_getD,zE hi]⟩
theorem yW {n:Nat} {a b k:Int} (h:k∈H8 n a b):k=b \/ ∃ i:Nat,1<=i/\i<n/\k=a+i-1:=by
 simp only[H8,List.mem_map,List.mem_range]at h;obtain ⟨i,hi,rfl⟩:=h;by_cases h0:i=0
 ·exact Or.inl (by rw[if_pos h0])
 ·exact Or.inr ⟨i,by omega,hi,by rw[if_neg h0]⟩
variable {b a:List Int} {d c:Wd}
theorem Ahw (hd:WV d) (hc:WV c) (l1:1<=b.length/\b.length<=49) (l2:a.length<=8) (hb : ∀ v∈b,FT c v) (ha : ∀ v∈a,FT c v/\FT c (-v)):DZ (GW b a d c)=true:=by
 rw[C5];refine ⟨hd,hc,⟨by simp only[GW];omega,by simp only[GW];omega,by simp [GW],by simp [GW,H8]⟩,?_,?_,by simp only[GW];omega,by simp only[GW,List.length_cons,List.length_nil];omega⟩
 ·simp only[GW,GF,Bool.and_true,Bool.and_eq_true,decide_eq_true_eq,List.all_eq_true]
  refine ⟨by simp [K9];omega,λ t ht => ?_⟩;simp only[FQ,decide_eq_true_eq];rcases List.mem_append.1 ht with h|h
  ·obtain ⟨i,v,hv,hi,rfl⟩:=U1 h
   exact ⟨by simp only;omega,by simp only;omega,Or.inr (by simpa using hb v hv)⟩
  ·obtain ⟨i,v,hv,hi,rfl⟩:=U1 h
   exact ⟨by simp only;omega,by simp only;omega,Or.inr (by simpa using (ha v hv).2)⟩
 ·simp only[GW,IU,List.all_eq_true,decide_eq_true_eq,List.length_cons,List.length_nil]
  intro k hk;rcases List.mem_append.1 hk with h|h
  all_goals (rcases yW h with rfl|⟨i,h1,h2,rfl⟩<;>refine decide_eq_true ?_<;>omega)
end Go.c6

namespace Go.c6
theorem AkC {f r:Int} (hf:0<=f/\f<=62) (hr:1<=r/\r<=3) (m:Int):J4 (pw f*m) f r=m:=by
 have hp:=E0 f;have e1:pw f*m%pw f=0:=Int.mul_emod_right _ _;have e2:pw f*m/pw f=m:=Int.mul_ediv_cancel_left _ (by omega);unfold J4;rw[if_pos ⟨hf.1,hf.2,hr.1,hr.2⟩];by_cases h0:f=0
 ·rw[if_pos h0,h0,Oe,Int.one_mul]
 ·rw[if_neg h0,if_neg (by rw[e1];have:=E0 (f-1);omega),e2]
theorem Aj5 {w:Wd} {v:Int} (h:FT w v):VC w v=v:=by
 obtain ⟨hw,h1,h2⟩:=h;obtain ⟨e1,e2,e3,e4⟩:=MW hw;have Up:=hw;unfold WV at Up;unfold VC;rw[if_pos hw];by_cases ho:w.o=2
 ·rw[if_pos ho]
  have hp:=dW (n:=w.b) (by omega);unfold aC;rw[if_pos (by omega)];by_cases hn:0<=v
  ·rw[Int.emod_eq_of_lt hn (by omega),if_neg (by omega)]
  ·have:v%pw w.b=v+pw w.b:=by
    rw[<-Int.add_emod_right];exact Int.emod_eq_of_lt (by omega) (by omega)
   rw[this,if_pos (by omega)];omega
 ·rw[if_neg ho]
  unfold ZV;omega
variable {d c:Wd} {p:List Int}
end Go.c6

namespace Go.c6
variable {d c:Wd} {p:List Int}
theorem Aj2 (n:Nat):List.range n=List.range' 0 n:=List.range_eq_range'
end Go.c6

namespace Go.c6
theorem UZ (l:List Int):(D7 l).length=l.length:=by simp [D7]
theorem xP (a b:List Int):D7 (a++b)=D7 a++D7 b:=by simp [D7]
theorem lG (l:List Int) (i:Nat):(D7 l).getD i 0=((l.getD i 0:Int):Rat):=by
 simp only[D7,List.getD_eq_getElem?_getD,List.getElem?_map];cases l[i]? <;> rfl
theorem Qx (vals:List Int) : ∀ ts,CD (D7 vals) ts=((KO vals ts:Int):Rat)
 | []=>rfl
 | t::ts=>by simp only[CD,KO,Qx vals ts,lG,Rat.intCast_add,Rat.intCast_mul]
theorem Qv {u:Int} (vals:List Int) : ∀ ts:List (Int × Int),(∀ t∈ts,∃ m,t.2=u*m) -> ∃ q,KO vals ts=u*q
 | [],_=>⟨0,by simp [KO]⟩
 | t::ts,h=>by
  obtain ⟨m,hm⟩:=h t (by simp);obtain ⟨q,hq⟩:=Qv vals ts (λ t ht=>h t (by simp [ht]));exact ⟨m*vals.getD t.1.toNat 0+q,by rw[KO,hq,hm,Int.mul_add,Int.mul_assoc]⟩
variable {n:Nt}
theorem sV (i:Nat) : ∀ (z:List Rat) (k:Nat),A3 ((List.range' k z.length).map λ(j:Nat)=>if (i:Int)=(j:Int) then (1:Rat) else 0) z=if k<=i then z.getD (i-k) 0 else 0
 | [],k=>by simp [A3]
 | x::z,k=>by
  simp only[List.length_cons,List.range'_succ,List.map_cons,A3];rw[sV i z (k+1)];by_cases h:i=k
  ·subst h
   rw[if_pos rfl,if_neg (by omega),if_pos (by omega),Nat.sub_self];simp [Rat.add_zero]
  ·rw[if_neg (by omega),Rat.zero_mul,Rat.zero_add]
   by_cases h2:k<=i
   ·rw[if_pos (by omega),if_pos h2,show i-k=(i-(k+1))+1 by omega]
    rfl
   ·rw[if_neg (by omega),if_neg h2]
theorem Alw (z:List Rat):QN ((List.range z.length).map λ(j:Nat)=>B8 z.length (j:Int)) z z:=by
 intro i hi;rw[List.map_map];have e:(List.range z.length).map ((λ c=>List.getD c i 0) ∘ λ(j:Nat)=>B8 z.length (j:Int))=(List.range z.length).map λ(j:Nat)=>if (i:Int)=(j:Int) then (1:Rat) else 0:=by
  refine List.map_congr_left λ j _ => ?_
  simp only[Function.comp,B8,List.getD_eq_getElem?_getD,List.getElem?_map,List.getElem?_range hi];rfl
 rw[e,List.range_eq_range',sV i z 0,if_pos (by omega),Nat.sub_zero]
theorem AiO (hb:DZ n=true) {x:Rat} {now:List Rat} (hl:(now.length:Int)=n.s) {m:Nat} (hm:m<1+now.length+n.nodes.length) :
  (DW ((pw n.c.f:Int):Rat) (-1) 0 (x::now) (BP n)).getD m 0=A3 ((List.range n.s.toNat).map λ(j:Nat)=>(FO n ((j:Int)+1) (-1)).getD m 0) now+(FO n 0 (-1)).getD m 0*x:=by
 obtain ⟨h1,h2,h3,h4,h5,h6⟩:=(C5 n).1 hb;have hu:=E0 n.c.f;have Eh:((pw n.c.f:Int):Rat)≠0:=by
  intro e;have:pw n.c.f=0:=by exact_mod_cast e
  omega
 have H:=QN.all Eh (BP n) 0 _ _ (Alw (x::now)) (λ c hc=>by
  obtain ⟨j,_,rfl⟩:=List.mem_map.1 hc;exact TW _ _) (λ i ts hi t ht=>by
  simp only[BP,List.getElem?_map]at hi;cases hn:n.nodes[i]? with
  | none=>rw[hn]at hi;cases hi
  | some nd =>
   rw[hn]at hi;cases hi;have:=List.all_eq_true.1 (ZC h4 hn) t ht
   simp only[FQ,decide_eq_true_eq]at this;simp only[List.length_cons];omega) m (by rw[YU];simp [BP];omega)
 rw[H,List.map_map,List.map_map,List.length_cons,List.range_succ_eq_map,List.map_cons,A3,List.map_map,Rat.add_comm];have e1:n.s.toNat=now.length:=by omega
 have e2:(1+n.s).toNat=now.length+1:=by omega
 rw[e1];congr 1
 ·congr 1
  refine List.map_congr_left λ j _ => ?_
  simp only[Function.comp,FO,e2];rfl
 ·simp only[Function.comp,FO,e2]
  rfl
end Go.c6

namespace Go.c6
def HE (n:Nt) (k:Int):FE where
 a:=(E7 n).a
 b:=n.next.map λ e=>(FO n (-1) k).getD e.toNat 0
 c:=(E7 n).c
 d:=(FO n (-1) k).getD n.out.toNat 0
theorem Aee (e:Int):AZ (.g8 [.agg [.sl false [],.sl false [],.sl false [],.bool false,.sl false [],.sl false []],.int .i64 e]):=by
 simp [AZ,BS,EV]
def cV (n:Nt) (k:Int):AV:=if 0<=k/\k<n.nodes.length then .g8 [.agg (eS (HE n k)),.int .i64 0] else .g8 [.agg [.sl false [],.sl false [],.sl false [],.bool false,.sl false [],.sl false []],.int .i64 1]
theorem Ai2 {a b:List Rat} {i:Nat} {x:Rat} (h:a[i]? = some x) (hb:i<b.length):(a.take i++b.drop i).set i x=a.take (i+1)++b.drop (i+1):=by
 have hl:=(zS h).1;have ht:(a.take i).length=i:=by rw[List.length_take];omega
 rw[List.set_append_right _ _ (by omega),ht,Nat.sub_self,List.drop_eq_getElem_cons hb,List.set_cons_zero,List.take_add_one,h,List.append_assoc];rfl
end Go.c6

namespace Go.c6
def m6 (ε f:Nat->Rat):Nat->Rat
 | 0=>0
 | N+1=>m6 ε f N+ε N*f N
theorem UO {ε f g:Nat->Rat} : ∀ N,(∀ k,k<N->f k=g k)->m6 ε f N=m6 ε g N
 | 0,_=>rfl
 | N+1,h=>by rw[m6,m6,UO N (λ k hk=>h k (by omega)),h N (by omega)]
theorem YI (ε f g:Nat->Rat) : ∀ N,m6 ε (λ k=>f k+g k) N=m6 ε f N+m6 ε g N
 | 0=>by simp only[m6];grind
 | N+1=>by simp only[m6,YI ε f g N];grind
theorem jO (ε f:Nat->Rat) (c:Rat) : ∀ N,m6 ε (λ k=>c*f k) N=c*m6 ε f N
 | 0=>by simp only[m6];grind
 | N+1=>by simp only[m6,jO ε f c N];grind
theorem Af7 (ε f:Nat->Rat) (u:Rat) (N:Nat):m6 ε (λ k=>f k/u) N=m6 ε f N/u:=by
 rw[Rat.div_def,Rat.mul_comm,<-jO];exact UO N λ k _=>by rw[Rat.div_def,Rat.mul_comm]
theorem cG (ε:Nat->Rat) : ∀ N,m6 ε (λ_=>0) N=0
 | 0=>rfl
 | N+1=>by rw[m6,cG ε N];grind
theorem tN (ε:Nat->Rat) (i:Nat) : ∀ N,m6 ε (λ k=>if (i:Int)=(k:Int) then 1 else 0) N=if i<N then ε i else 0
 | 0=>rfl
 | N+1=>by
  rw[m6,tN ε i N];by_cases h:i=N
  ·subst h
   rw[if_neg (show ¬ i<i by omega),if_pos rfl,if_pos (show i<i+1 by omega)];grind
  ·rw[if_neg (show ¬ (i:Int)=(N:Int) by omega)]
   by_cases h2:i<N
   ·rw[if_pos h2,if_pos (show i<N+1 by omega)];grind
   ·rw[if_neg h2,if_neg (show ¬ i<N+1 by omega)];grind
theorem Qw {A B:List Rat} {C:Nat->List Rat} {ε:Nat->Rat} {N:Nat} : ∀ ts:List (Int × Int),(∀ t∈ts,A.getD t.1.toNat 0=B.getD t.1.toNat 0+m6 ε (λ k=>(C k).getD t.1.toNat 0) N)->CD A ts=CD B ts+m6 ε (λ k=>CD (C k) ts) N
 | [],_=>by simp only[CD,cG];grind
 | t::ts,h=>by
  simp only[CD];rw[h t (by simp),Qw ts (λ u hu=>h u (by simp [hu])),YI ε (λ k=>(t.2:Rat)*(C k).getD t.1.toNat 0) (λ k=>CD (C k) ts),jO];grind
def EY (u:Rat) (ε:Nat->Rat):Nat->List Rat->List (List (Int × Int))->List Rat
 | _,vals,[]=>vals
 | k,vals,ts::r=>EY u ε (k+1) (vals++[CD vals ts/u+ε k]) r
theorem kF (u:Rat) (ε:Nat->Rat) (ts:List (Int × Int)) : ∀ (l:List (List (Int × Int))) (k:Nat) (vals:List Rat),EY u ε k vals (l++[ts])=EY u ε k vals l++[CD (EY u ε k vals l) ts/u+ε (k+l.length)]
 | [],k,vals=>rfl
 | a::l,k,vals=>by
  rw[List.cons_append,EY,kF u ε ts l,EY,List.length_cons,show k+1+l.length=k+(l.length+1) by omega]
theorem kE (u:Rat) (ε:Nat->Rat) : ∀ (k:Nat) (vals:List Rat) (l:List (List (Int × Int))),(EY u ε k vals l).length=vals.length+l.length
 | _,_,[]=>rfl
 | k,vals,ts::r=>by rw[EY,kE u ε (k+1)];simp;omega
theorem Alt (m i:Nat):(B8 m (-1)).getD i 0=0:=by
 simp only[B8,List.getD_eq_getElem?_getD,List.getElem?_map];cases (List.range m)[i]? with
 | none=>rfl
 | some j=>simp only[Option.map_some,Option.getD_some];rw[if_neg (by omega)]
theorem vR {u:Rat} (ε:Nat->Rat) (vals:List Rat) (N:Nat) (l:List (List (Int × Int))) (hN:l.length<=N) (ht : ∀ i ts,l[i]? = some ts -> ∀ t∈ts,t.1.toNat<vals.length+i) : ∀ i,i<=l.length -> ∀ m,m<vals.length+i ->
  (EY u ε 0 vals (l.take i)).getD m 0=(DW u (-1) 0 vals (l.take i)).getD m 0+m6 ε (λ k=>(DW u (k:Int) 0 (B8 vals.length (-1)) (l.take i)).getD m 0) N
 | 0,_,m,hm=>by
  rw[List.take_zero,EY,DW,UO N (g:=λ_=>0) (λ k _=>by rw[DW];exact Alt _ _),cG];grind
 | i+1,hi,m,hm=>by
  have ih:=vR (u:=u) ε vals N l hN ht i (by omega);obtain ⟨ts,dd⟩ : ∃ ts,l[i]? = some ts:=⟨_,zE (by omega)⟩;have hl:(l.take i).length=i:=by rw[List.length_take];omega
  have e1:EY u ε 0 vals (l.take (i+1))=EY u ε 0 vals (l.take i)++[CD (EY u ε 0 vals (l.take i)) ts/u+ε i]:=by
   rw[List.take_add_one,dd,Option.toList_some,kF,hl,Nat.zero_add]
  have e2:=kG u (-1) vals l i ts dd;have e3:=λ k:Nat=>kG u (k:Int) (B8 vals.length (-1)) l i ts dd
  have l1:(EY u ε 0 vals (l.take i)).length=vals.length+i:=by rw[kE,hl]
  have l2:(DW u (-1) 0 vals (l.take i)).length=vals.length+i:=by rw[YU,hl]
  have l3 : ∀ k:Nat,(DW u (k:Int) 0 (B8 vals.length (-1)) (l.take i)).length=vals.length+i:=λ k=>by rw[YU,hl,TW]
  rw[e1,e2];by_cases bh:m<vals.length+i
  ·rw[WN (by omega),WN (by omega),ih m bh]
   congr 1;exact UO N λ k _=>by rw[e3,WN (by rw[l3];exact bh)]
  ·rw[WM (by omega),WM (by omega),UO N (g:=λ k=>CD (DW u (k:Int) 0 (B8 vals.length (-1)) (l.take i)) ts/u+(if (i:Int)=(k:Int) then 1 else 0)) (λ k _=>by rw[e3,WM (by rw[l3];omega)]),
    YI ε (λ k=>CD (DW u (k:Int) 0 (B8 vals.length (-1)) (l.take i)) ts/u) (λ k=>if (i:Int)=(k:Int) then 1 else 0),tN,if_pos (show i<N by omega),Af7,
    Qw (B:=DW u (-1) 0 vals (l.take i)) (C:=λ k=>DW u (k:Int) 0 (B8 vals.length (-1)) (l.take i)) (ε:=ε) (N:=N) ts (λ t h=>ih _ (ht i ts dd t h)),if_neg (by omega)]
   simp only[Rat.div_def];grind
variable {n:Nt}
def fA (n:Nt) (e:Int):List Rat:=(List.range n.s.toNat).map λ(j:Nat)=>(FO n ((j:Int)+1) (-1)).getD e.toNat 0
def gX (n:Nt) (e:Int):Rat:=(FO n 0 (-1)).getD e.toNat 0
def gK (n:Nt) (k:Nat) (e:Int):Rat:=(FO n (-1) (k:Int)).getD e.toNat 0
theorem aY {α:Type} (f g:α->Rat) : ∀ l:List α,KC (l.map f) (l.map g)=l.map λ e=>f e+g e
 | []=>rfl
 | e::l=>by
  show (f e+g e)::KC (l.map f) (l.map g)=_;rw[aY f g l];rfl
end Go.c6

namespace Go.c6
open F
attribute [local irreducible] AA AF AX AC CN AR BA A6 BV BH CM EI BO AY B0 CJ AB A5 AH pw CQ CE C8 EA DP BT CP BU C7
variable {L:Lib}
set_option maxHeartbeats 16000000
set_option maxRecDepth 8000
def mz (Q:List (List Rat)) (n i:Nat):List (Option (Nat × List (List AV))):=fz none (EL 3 eQ (Q.take i)) n
theorem mB {Q:List (List Rat)} {n i:Nat} (hi:i<=n):(mz Q n i).length=n:=by
 refine kR ?_;simp only[EL,List.length_map,List.length_take];omega
theorem mD (Q:List (List Rat)) (n:Nat):mz Q n 0=List.replicate n none:=by simp [mz,fz]
theorem mC {Q:List (List Rat)} {n i:Nat} {row:List Rat} (h:Q[i]? = some row) (hi:i<n):(mz Q n i).set i (some (3,row.map eQ))=mz Q n (i+1):=by
 have h1:=(zS h).1;have hl:(EL 3 eQ (Q.take i)).length=i:=by simp only[EL,List.length_map,List.length_take];omega
 have:=kS (z:=none) (l:=EL 3 eQ (Q.take i)) (m:=n) (x:=some (3,row.map eQ)) (by omega)
 rw[hl]at this;rw[mz,this,mz,fU h];simp [EL]
theorem mA {Q:List (List Rat)} {n:Nat} (h:Q.length=n):mz Q n n=EL 3 eQ Q:=by
 rw[mz,zT (by omega)];exact kQ (by simp [EL,h])
def cz (row:List Rat) (n j:Nat):List Rat:=fz 0 (row.take j) n
theorem AeR {row:List Rat} {n j:Nat} (hj:j<=n):(cz row n j).length=n:=by
 refine kR ?_;rw[List.length_take];omega
theorem AeT (row:List Rat) (n:Nat):cz row n 0=List.replicate n 0:=by simp [cz,fz]
theorem AeS {row:List Rat} {n j:Nat} {x:Rat} (h:row[j]? = some x) (hj:j<n):(cz row n j).set j x=cz row n (j+1):=by
 have h1:=(zS h).1;have hl:(row.take j).length=j:=by rw[List.length_take];omega
 have:=kS (z:=(0:Rat)) (l:=row.take j) (m:=n) (x:=x) (by omega)
 rw[hl]at this;rw[cz,this,cz,fU h]
theorem AeQ {row:List Rat} {n:Nat} (h:row.length=n):cz row n n=row:=by
 rw[cz,zT (by omega)];exact kQ h
theorem Ahj (N:o8 L) (m:Nat) (hm:m<=65536):KQ L 206 [.int .i64 (m:Int)] 3 ((List.replicate m (0:Rat)).map eQ):=by
 have hO:=HN N.toa7 0 (by omega);refine KQ.x N.QC rfl rfl ?_;(repeat' (apply AE<;>conv=>whnf))
 refine D9 (enc:=eO) none m rfl rfl (by omega) ?_;(conv=>whnf)
 skip
 refine D8 (λ i=>m-i) (λ(i:Nat)=>i<=m) (λ i=>[(8,.int .i64 i)]) (λ i=>[(6,6,.rw 3 ((DX (List.replicate i 0) m).map eO))]) [] [] 0 (by first|exact (by (conv=>whnf);exact ⟨rfl,rfl,rfl⟩)|(rw[<-WK];exact (by (conv=>whnf);exact ⟨rfl,rfl,rfl⟩))) (by omega) ?_;intro i p1 ih;by_cases hi:i<m
 ·have hl:=SA (l:=List.replicate i (0:Rat)) (m:=m) (by simp;omega)
  have hs:=UU (l:=List.replicate i (0:Rat)) (m:=m) (x:=0) (by simp;omega);rw[List.length_replicate]at hs;(repeat' ((first|(apply AG<;>intro hc<;>try omega)|(apply A2;omega)|apply AE|refine AD (hO) ?_)<;>conv=>whnf))
  refine KB (enc:=eO) (some 0) rfl (λ e=>by cases e<;>rfl) (by omega) ?_;(conv=>whnf)
  (repeat' ((first|(apply AQ;omega)|fail)<;>conv=>whnf))
  rw[hs];rw[show List.replicate i (0:Rat)++[0]=List.replicate (i+1) 0 by rw[List.replicate_succ']];exact BB [] (ih (i+1) (by omega) (by omega))
 obtain rfl:i=m:=by omega
 clear ih;rw[WJ (by simp)];(repeat' ((first|(apply AG<;>intro hc<;>try omega)|apply AE)<;>conv=>whnf))
 exact ⟨rfl,rfl,by simp,rfl,KS _⟩
theorem kD (N:o8 L) (q:Bool) (l:List Rat) (i:Int) (k:Nat) (h0:0<=i) (hl:Bs k l) (hk:k<2199023255552) (hn:l.length<=1000000):Ev L 205 [.sl q (l.map eQ),.int .i64 i] (.agg (eQ (l.getD i.toNat 0))):=by
 have hO:=HN N.toa7 0 (by omega);refine Ev.x N.QA rfl rfl ?_;by_cases hi:i<l.length
 ·obtain ⟨x,hx⟩ : ∃ x,l[i.toNat]? = some x:=⟨_,zE (by omega)⟩
  have hT:=vL N.toa7 (hl.at hx) hk;rw[Y1 hx];(repeat' ((first|(apply AG<;>intro hc<;>try omega)|apply AP|(refine A9 (by assumption) ?_ rfl ?_;omega)|apply AE|refine AD (hT) ?_)<;>conv=>whnf))
  exact AW rfl (C3 _)
 ·rw[Ahx (l:=l) (by omega)]
  (repeat' ((first|(apply AG<;>intro hc<;>try omega)|apply AP|apply AE|refine AD (hO) ?_)<;>conv=>whnf))
  exact AW rfl (C3 _)
theorem vI (N:o8 L) (q:Bool) (l:List Rat) (k:Nat) (ht:RP l=l) (hl:Bs k l) (hk:k<2199023255552) (hn:l.length<=1000000):Ev L 204 [.sl q (l.map eQ)] (.int .i64 ((l.length-1:Nat):Int)):=by
 refine Ev.x N.QB rfl rfl ?_;(repeat' ((first|(apply BL;omega)|apply AP|apply AE)<;>conv=>whnf))
 refine GJ ?_;by_cases h2:l.length<=1
 ·(repeat' ((first|(apply AG<;>intro hc<;>try omega)|apply AE)<;>conv=>whnf))
  exact B5 (by omega)
 ·obtain ⟨x,hx⟩ : ∃ x,l[l.length-1]? = some x:=⟨_,zE (by omega)⟩
  have lf:l[((l.length:Int)-1).toNat]? = some x:=by rw[show ((l.length:Int)-1).toNat=l.length-1 by omega];exact hx
  have Uq:=Alp ht (by omega);rw[Y1 hx]at Uq;have hS:=WE N.toa7 (hl.at hx) hk;have hs:=TR (x:=x);generalize o9 x.num=s at *;have fb:s≠0:=λ h=>Uq (hs.1 h)
  (repeat' ((first|(apply AG<;>intro hc<;>try omega)|(refine A9 (by assumption) ?_ rfl ?_;omega)|apply AE|refine AD (hS) ?_)<;>conv=>whnf))
  exact B5 (by omega)
theorem Ahe (N:o8 L) (q1 q2:Bool) (B A:List Rat) (k:Nat) (hB:Bs k B) (hA:Bs k A) (hk:k<2199023255552) (lB:B.length<=49) (lA:A.length<=49) (h0:A[0]? = some 1):Ev L 201 [.agg [.sl q1 (B.map eQ),.sl q2 (A.map eQ)]] (.bool true):=by
 have c1:=YB B B.length;have c2:=YB A A.length;have og:=uU N q1 B k hB hk (by omega);have oh:=uU N q2 A k hA hk (by omega);have hO:=HN N.toa7 1 (by omega);have hC:=YN N (Bt.one 1) (Bt.one 1) (by omega) (by omega);rw[Mz.2 rfl]at hC;have hAl:0<A.length:=(zS h0).1;have tv:A[(0:Int).toNat]? = some 1:=h0;generalize I5 B B.length=d1 at *;generalize I5 A A.length=d2 at *;refine Ev.x N.P4 rfl rfl ?_;(repeat' ((first|(apply AG<;>intro hc<;>try omega)|apply AP|(refine A9 (by assumption) ?_ rfl ?_;omega)|apply AE|refine AD (og) ?_|refine AD (oh) ?_|refine AD (hO) ?_|refine AD (hC) ?_)<;>conv=>whnf))
 exact FV rfl
theorem AeD (B A:List Rat) (m:Nat):(GD B A (m+1)).a.take 1=[(List.range (m+1)).map λ k => -(A.getD (k+1) 0)]:=by
 simp [GD,List.range_succ_eq_map]
theorem AeE {B A:List Rat} {n i:Nat} (h1:1<=i) (hi:i<n):(GD B A n).a[i]? = some (B8 n ((i-1:Nat):Int)):=by
 simp only[GD,List.getElem?_map,List.getElem?_range hi,Option.map_some];rw[if_neg (by omega)]
theorem rT {B A:List Rat} {n i:Nat} (hi:i<n):(GD B A n).c[i]? = some (B.getD (i+1) 0-B.getD 0 0*A.getD (i+1) 0):=by
 simp only[GD,List.getElem?_map,List.getElem?_range hi,Option.map_some]
theorem AeG (B A:List Rat) (m:Nat):(GD B A (m+1)).c.take 1=[B.getD 1 0-B.getD 0 0*A.getD 1 0]:=by
 rw[List.take_add_one,rT (by omega)];rfl
theorem AeF (B A:List Rat) (n:Nat):(GD B A n).a.length=n:=by simp [GD]
theorem AeH (B A:List Rat) (n:Nat):(GD B A n).c.length=n:=by simp [GD]
theorem I0 {α:Type} {l:List α} {i:Nat} {x:α} (h:l[i]? = some x):l.take (i+1)=l.take i++[x]:=by
 rw[List.take_add_one,h];rfl
theorem Aef (S:FE) (e:Int):AZ (.g8 [.agg (eS S),.int .i64 e]):=by
 have:=X7 S
 simp only[AZ,BS,true_and,and_true]at this ⊢;exact this
theorem Agd (N:o8 L) (w1 w2:Bool) (B A:List Rat) (n k:Nat) (hB:RP B=B) (hA:RP A=A) (bB:Bs k B) (bA:Bs k A) (lB:B.length<=17) (lA:A.length<=17) (h0:A[0]? = some 1) (hn:max (B.length-1) (A.length-1)=n) (hk:k<=1000000) :
  Ev L 207 [.agg [.sl w1 (B.map eQ),.sl w2 (A.map eQ)]] (.g8 [.agg (eS (GD B A n)),.int .i64 0]):=by
 have hV:=Ahe N w1 w2 B A k bB bA (by omega) (by omega) (by omega) h0;have og:=vI N w1 B k hB bB (by omega) (by omega);have oh:=vI N w2 A k hA bA (by omega) (by omega);have hO:=HN N.toa7 1 (by omega);have ub:=kD N w1 B 0 k (by omega) bB (by omega) (by omega);rw[show B.getD (0:Int).toNat 0=B.getD 0 0 from rfl]at ub;have hZ:=Ahj N n (by omega);have Rp:Bt k (B.getD 0 0):=Y3 bB 0;have Ct : ∀ i:Nat,Ev L 205 [.sl w1 (B.map eQ),.int .i64 ((i:Int)+1)] (.agg (eQ (B.getD (i+1) 0)))/\Ev L 205 [.sl w2 (A.map eQ),.int .i64 ((i:Int)+1)] (.agg (eQ (A.getD (i+1) 0))) /\
   Ev L 99 [.agg (eQ (B.getD 0 0)),.agg (eQ (A.getD (i+1) 0))] (.agg (eQ (B.getD 0 0*A.getD (i+1) 0)))/\Ev L 150 [.agg (eQ (B.getD (i+1) 0)),.agg (eQ (B.getD 0 0*A.getD (i+1) 0))] (.agg (eQ (B.getD (i+1) 0-B.getD 0 0*A.getD (i+1) 0))) /\
   Ev L 199 [.agg (eQ (A.getD (i+1) 0))] (.agg (eQ (-(A.getD (i+1) 0)))):=λ i=>by
  have e1:=kD N w1 B ((i:Int)+1) k (by omega) bB (by omega) (by omega);have e2:=kD N w2 A ((i:Int)+1) k (by omega) bA (by omega) (by omega);rw[show ((i:Int)+1).toNat=i+1 by omega]at e1 e2;exact ⟨e1,e2,I6 N.toa7 Rp (Y3 bA _) (by omega) (by omega),Ahl N.tow9 (Y3 bB _) (Rp.mul (Y3 bA _)) (by omega) (by omega),AgJ N (Y3 bA _) (by omega)⟩
 have hd:(GD B A n).d=B.getD 0 0:=rfl;have bp:=AeF B A n;have n6:=AeH B A n;have gn:eS (GD B A n)=[.sl false ((GD B A n).a.map λ r=>[AV.sl false (r.map eQ)]),.sl false ((B8 n 0).map eQ),.sl false ((GD B A n).c.map eQ)]++eQ (B.getD 0 0):=rfl;have u9:=Aef (GD B A n) 0;rw[gn]at u9 ⊢;have hai : ∀ i,1<=i->i<n->(GD B A n).a[i]? = some (B8 n ((i-1:Nat):Int)):=λ i h1 h2=>AeE h1 h2
 have Fz : ∀ i,i<n->(GD B A n).c[i]? = some (B.getD (i+1) 0-B.getD 0 0*A.getD (i+1) 0):=λ i h=>rT h
 have Iy:0<n->(GD B A n).a.take 1=[(List.range n).map λ k => -(A.getD (k+1) 0)]:=λ h=>by
  obtain ⟨m,rfl⟩ : ∃ m,n=m+1:=⟨n-1,by omega⟩;exact AeD B A m
 have vy:0<n->(GD B A n).c.take 1=[B.getD (0+1) 0-B.getD 0 0*A.getD (0+1) 0]:=λ h=>by
  obtain ⟨m,rfl⟩ : ∃ m,n=m+1:=⟨n-1,by omega⟩;exact AeG B A m
 have js : ∀ j,j<n->((List.range n).map λ k => -(A.getD (k+1) 0))[j]? = some (-(A.getD (j+1) 0)):=λ j h=>by
  rw[List.getElem?_map,List.getElem?_range h];rfl
 have Ku:((List.range n).map λ k => -(A.getD (k+1) 0)).length=n:=by simp
 have jj : ∀ j,(B8 n j).length=n:=λ j=>TW n j
 generalize (GD B A n).a=a at *;generalize (GD B A n).c=c at *;generalize (List.range n).map (λ k => -(A.getD (k+1) 0))=r0 at *;generalize B.getD 0 0=b0 at *;rcases Nat.lt_or_ge (B.length-1) (A.length-1) with j9|km
 focus
  rw[show A.length-1=n by omega]at oh j9;refine Ev.x N.LB rfl rfl ?_;(repeat' ((first|(apply AG<;>intro hc<;>try omega)|apply AE|refine AD (hV) ?_|refine AD (og) ?_|refine AD (oh) ?_|refine AD (ub) ?_)<;>conv=>whnf))
 rotate_left
 focus
  rw[show B.length-1=n by omega]at og km;refine Ev.x N.LB rfl rfl ?_;(repeat' ((first|(apply AG<;>intro hc<;>try omega)|apply AE|refine AD (hV) ?_|refine AD (og) ?_|refine AD (oh) ?_|refine AD (ub) ?_)<;>conv=>whnf))
 all_goals
  refine TY (enc:=eQ) n hZ (by simp) ?_;(conv=>whnf)
  by_cases nz:n=0
  ·skip
   first
   | exact absurd j9 (by omega)
   |(subst nz
     (repeat' ((first|(apply AG<;>intro hc<;>try omega)|fail)<;>conv=>whnf))
     refine GJ ?_;(repeat' ((first|(apply AG<;>intro hc<;>try omega)|(refine CZ (λ_=>rfl) rfl ?_ ?_;(first|rfl|simp))|apply AE)<;>conv=>whnf))
     rw[List.eq_nil_of_length_eq_zero bp,List.eq_nil_of_length_eq_zero n6]at *;exact AW rfl u9)
  ·(repeat' ((first|(apply AG<;>intro hc<;>try omega)|(apply A2;omega)|refine AD (hO) ?_)<;>conv=>whnf))
   refine KA (enc:=eQ) 0 1 rfl rfl (λ_=>rfl) (by simp;omega) ?_;(conv=>whnf)
   rw[show (List.replicate n (0:Rat)).set 0 1=B8 n 0 from oM n 0];skip
   refine GJ ?_;(repeat' ((first|(apply AG<;>intro hc<;>try omega)|apply AE)<;>conv=>whnf))
   refine TY (enc:=eQ) n hZ (by simp) ?_;(conv=>whnf)
   (repeat' ((first|(apply AG<;>intro hc<;>try omega)|fail)<;>conv=>whnf))
   refine D8 (λ j=>n-j) (λ(j:Nat)=>j<=n) (λ j=>[(50,.int .i64 j)]) (λ j=>[(41,41,.rw 3 ((cz r0 n j).map eQ))]) [] [] 0 (by first|exact (by (conv=>whnf);exact ⟨rfl,rfl,rfl⟩)|(rw[AeT];exact (by (conv=>whnf);exact ⟨rfl,rfl,rfl⟩))) (by omega) ?_;intro j p1 ih;have uh:=AeR (row:=r0) p1;by_cases hj:j<n
   ·have k7:=AeS (js j hj) hj
    obtain ⟨f1,f2,f3,f4,f5⟩:=Ct j;(repeat' ((first|(apply AG<;>intro hc<;>try omega)|(apply A2;omega)|(apply AQ;omega)|apply AE|refine AD (f2) ?_|refine AD (f5) ?_)<;>conv=>whnf))
    refine KB (enc:=eQ) (-(A.getD (j+1) 0)) rfl (λ_=>rfl) (by omega) ?_;(conv=>whnf)
    (repeat' ((first|(apply AQ;omega)|fail)<;>conv=>whnf))
    rw[k7];exact BB [] (ih (j+1) (by omega) (by omega))
   obtain rfl:j=n:=by omega
   clear ih;rw[AeQ Ku];obtain ⟨f1,f2,f3,f4,f5⟩:=Ct 0;(repeat' ((first|(apply AG<;>intro hc<;>try omega)|apply AE)<;>conv=>whnf))
   refine A2 ⟨by rw[List.length_map];omega,by omega⟩ ?_;(conv=>whnf)
   (repeat' ((first|(apply AQ;omega)|apply DQ|refine AD (ub) ?_|refine AD (f1) ?_|refine AD (f2) ?_|refine AD (f3) ?_|refine AD (f4) ?_)<;>conv=>whnf))
   refine SY (enc:=eQ) (B.getD (0+1) 0-b0*A.getD (0+1) 0) rfl rfl (by omega) ?_;(conv=>whnf)
   (repeat' ((first|(apply AQ;omega)|fail)<;>conv=>whnf))
   refine D8 (λ i=>j-i) (λ(i:Nat)=>1<=i/\i<=j) (λ i=>[(37,.int .i64 i)]) (λ i=>[(5,5,.bx ([.row 67 0 1 0 i,.row 28 0 3 0 j,.row 88 0 3 0 i]++eQ b0)),(67,67,.mx (EL 3 eQ (a.take i))),(88,88,.rw 3 ((c.take i).map eQ))]) [] [] 1 (by first|exact (by (conv=>whnf);exact ⟨rfl,rfl,rfl⟩)|(rw[Iy (by omega),vy (by omega)];exact (by (conv=>whnf);exact ⟨rfl,rfl,rfl⟩))) (by omega) ?_;intro i ⟨g1,g2⟩ ih;have Jc:(a.take i).length=i:=by rw[List.length_take];omega
   have Jm:(c.take i).length=i:=by rw[List.length_take];omega
   by_cases hi:i<j
   ·obtain ⟨f1,f2,f3,f4,f5⟩:=Ct i
    have Gt:=I0 (hai i g1 hi);have Lb:=I0 (Fz i hi);have Jd:(a.take (i+1)).length=i+1:=by rw[List.length_take];omega
    have Jn:(c.take (i+1)).length=i+1:=by rw[List.length_take];omega
    have Au1:=jj ((i-1:Nat):Int);(repeat' ((first|(apply AG<;>intro hc<;>try omega)|apply AE)<;>conv=>whnf))
    refine TY (enc:=eQ) j hZ (by simp) ?_;(conv=>whnf)
    (repeat' ((first|(apply AG<;>intro hc<;>try omega)|(apply A2;omega)|(apply BL;omega)|refine AD (hO) ?_)<;>conv=>whnf))
    refine KA (enc:=eQ) (i-1) 1 (by omega) rfl (λ_=>rfl) (by simp;omega) ?_;(conv=>whnf)
    rw[oM];skip
    refine A2 (by rw[List.length_map];omega) ?_;refine XM (r:=B8 j ((i-1:Nat):Int)) (en:=eQ) Jc.symm (by omega) (by omega) ?_;rw[<-Gt,Jd];(conv=>whnf)
    (repeat' ((first|(apply AQ;omega)|apply DQ|refine AD (ub) ?_|refine AD (f1) ?_|refine AD (f2) ?_|refine AD (f3) ?_|refine AD (f4) ?_)<;>conv=>whnf))
    refine FA (enc:=eQ) (B.getD (i+1) 0-b0*A.getD (i+1) 0) rfl Jm.symm rfl (by omega) (by omega) ?_;rw[<-Lb,Jn];(conv=>whnf)
    (repeat' ((first|(apply AQ;omega)|fail)<;>conv=>whnf))
    exact BB [(67,1000067),(88,1000088)] (ih (i+1) (by omega) (by omega))
   obtain rfl:i=j:=by omega
   clear ih;rw[zT (Nat.le_of_eq bp),zT (Nat.le_of_eq n6)]at *;(repeat' ((first|(apply AG<;>intro hc<;>try omega)|apply AE)<;>conv=>whnf))
   refine QQ (λ_=>rfl) rfl bp.symm ?_;(conv=>whnf)
   refine CZ (enc:=eQ) (λ_=>rfl) rfl (jj 0).symm ?_;(conv=>whnf)
   refine CZ (enc:=eQ) (λ_=>rfl) rfl n6.symm ?_;(conv=>whnf)
   exact AW rfl u9
theorem rN {a:List (List Rat)} {i j:Nat} {r:List Rat} {x:Rat} (hr:a[j]? = some r) (hx:r[i]? = some x):(C9 a i)[j]? = some x:=by
 simp only[C9,List.getElem?_map,hr,Option.map_some,Y1 hx]
theorem aH {R:List (Option (Nat × List (List AV)))} {e:Nat} {r:Option (Nat × List (List AV))} {K:Option (Nat × List (List AV))->Prop} (h:R[e]? = some r) (hk:K r):CQ R e K:=by
 unfold CQ;exact ⟨r,h,hk⟩
def W9 (n:Nt) (inj:Int) (j:Nat):Int:=if j<n.s.toNat then (j:Int)+1 else if inj<0 then 0 else -1
def LM (n:Nt) (inj:Int) (j:Nat):Int:=if j<n.s.toNat then -1 else if inj<0 then -1 else inj
def FY (n:Nt) (inj:Int) (k j:Nat):List Rat:=DW ((pw n.c.f:Int):Rat) (LM n inj j) 0 (B8 (1+n.s).toNat (W9 n inj j)) ((BP n).take k)
def EN (n:Nt) (inj:Int) (k m:Nat):List Rat:=(List.range (n.s.toNat+1)).map λ j=>(FY n inj k j).getD m 0
def HG (n:Nt) (inj:Int) (k:Nat):List (List Rat):=(List.range ((1+n.s).toNat+k)).map (EN n inj k)
def FP (n:Nt) (inj:Int) (k:Nat) (ts:List (Int × Int)) (t:Nat):List Rat:=(List.range (n.s.toNat+1)).map λ j=>CD (FY n inj k j) (ts.take t)/((pw n.c.f:Int):Rat)
theorem iN (n:Nt) (inj:Int) (k j:Nat) (hk:k<=n.nodes.length):(FY n inj k j).length=(1+n.s).toNat+k:=by
 simp only[FY,YU,TW,List.length_take,BP,List.length_map];omega
theorem VD (n:Nt) (inj:Int) (k m:Nat):(EN n inj k m).length=n.s.toNat+1:=by simp [EN]
theorem eH (n:Nt) (inj:Int) (k:Nat):(HG n inj k).length=(1+n.s).toNat+k:=by simp [HG]
theorem rL (n:Nt) (inj:Int) (k j:Nat) (h2:WV n.c) (ct:RY (BP n)) (hk:k<=n.nodes.length) (ew:n.nodes.length<=5):Bs 117150 (FY n inj k j):=by
 have j9:(BP n).length=n.nodes.length:=by simp [BP]
 have zq:=E0 n.c.f;have pt:(pw n.c.f).natAbs<=2^24:=by
  have hf:n.c.f<24:=by unfold WV at h2;omega
  have h9:(2:Nat)^n.c.f.toNat<=2^24:=Nat.pow_le_pow_right (by omega) (by omega);rw[pw];exact_mod_cast h9
 have h:=vV (ex:=LM n inj j) zq pt ((BP n).take k) 0 (B8 (1+n.s).toNat (W9 n inj j)) ⟨λ ts h=>ct.len ts (List.mem_of_mem_take h),λ ts h=>ct.cf ts (List.mem_of_mem_take h)⟩ (Bs.unit _ _ _);rw[List.length_take,j9,Nat.min_eq_left hk,Nat.zero_add]at h;intro x hx;refine (h x hx).le ?_;rcases k with _|_|_|_|_|_|k
 ·decide
 ·decide
 ·decide
 ·decide
 ·decide
 ·decide
 ·omega
theorem rM (n:Nt) (inj:Int) (k j:Nat) {ts:List (Int × Int)} (h:(BP n)[k]? = some ts):FY n inj (k+1) j=FY n inj k j++[CD (FY n inj k j) ts/((pw n.c.f:Int):Rat)+(if (k:Int)=LM n inj j then 1 else 0)]:=kG _ _ _ _ k ts h
theorem Akd (n:Nt) (inj:Int) (hs:0<=n.s):EN n inj 0 0=B8 (n.s.toNat+1) (if inj<0 then n.s else -1):=by
 simp only[EN,FY,List.take_zero,DW,B8];refine List.map_congr_left λ j hj => ?_
 have hj:=List.mem_range.1 hj;rw[List.getD_eq_getElem?_getD,List.getElem?_map,List.getElem?_range (by omega)];simp only[Option.map_some,Option.getD_some,W9];congr 1;rw[eq_iff_iff];split<;>split<;>omega
theorem Akc (n:Nt) (inj:Int) (i:Nat) (hs:0<=n.s) (hi:i<n.s.toNat):EN n inj 0 (i+1)=B8 (n.s.toNat+1) (i:Int):=by
 simp only[EN,FY,List.take_zero,DW,B8];refine List.map_congr_left λ j hj => ?_
 have hj:=List.mem_range.1 hj;rw[List.getD_eq_getElem?_getD,List.getElem?_map,List.getElem?_range (by omega)];simp only[Option.map_some,Option.getD_some,W9];congr 1;rw[eq_iff_iff];split
 ·omega
 ·split<;>omega
theorem Akg (n:Nt) (inj:Int) (k:Nat) {ts:List (Int × Int)} (h:(BP n)[k]? = some ts) (hk:k<n.nodes.length):HG n inj (k+1)=HG n inj k++[EN n inj (k+1) ((1+n.s).toNat+k)]:=by
 unfold HG;rw[show (1+n.s).toNat+(k+1)=((1+n.s).toNat+k)+1 by omega,List.range_succ,List.map_append,List.map_singleton];congr 1;refine List.map_congr_left λ m hm => ?_
 have hm:=List.mem_range.1 hm;unfold EN;refine List.map_congr_left λ j _ => ?_
 rw[rM n inj k j h,WN (by rw[iN n inj k j (by omega)];omega)]
theorem Ov (n:Nt) (inj:Int) (k:Nat) {ts:List (Int × Int)} (h:(BP n)[k]? = some ts) (hk:k<n.nodes.length) :
  EN n inj (k+1) ((1+n.s).toNat+k)=(List.range (n.s.toNat+1)).map λ j=>CD (FY n inj k j) ts/((pw n.c.f:Int):Rat)+(if (k:Int)=LM n inj j then 1 else 0):=by
 unfold EN;refine List.map_congr_left λ j _ => ?_
 rw[rM n inj k j h,WM (by rw[iN n inj k j (by omega)])]
theorem Akf (n:Nt) (inj:Int) (k:Nat) {ts:List (Int × Int)} (h:(BP n)[k]? = some ts) (hk:k<n.nodes.length) (l9:(k:Int)≠inj):FP n inj k ts ts.length=EN n inj (k+1) ((1+n.s).toNat+k):=by
 rw[Ov n inj k h hk];unfold FP;refine List.map_congr_left λ j _ => ?_
 have : ¬ (k:Int)=LM n inj j:=by unfold LM;split<;>(try split)<;>omega
 rw[if_neg this,Rat.add_zero,List.take_length]
theorem Ake (n:Nt) (inj:Int) (k:Nat) {ts:List (Int × Int)} (h:(BP n)[k]? = some ts) (hk:k<n.nodes.length) (he:(k:Int)=inj) {x:Rat} (hx:(FP n inj k ts ts.length)[n.s.toNat]? = some x):(FP n inj k ts ts.length).set n.s.toNat (x+1)=EN n inj (k+1) ((1+n.s).toNat+k):=by
 rw[Ov n inj k h hk];refine List.ext_getElem? λ j => ?_
 rw[List.getElem?_set];have hl:(FP n inj k ts ts.length).length=n.s.toNat+1:=by simp [FP]
 by_cases hj:n.s.toNat=j
 ·subst hj
  rw[if_pos rfl,if_pos (by omega),List.getElem?_map,List.getElem?_range (by omega)];simp only[FP,List.getElem?_map,List.getElem?_range (show n.s.toNat<n.s.toNat+1 by omega),Option.map_some,Option.some.injEq,List.take_length]at hx ⊢;have:(k:Int)=LM n inj n.s.toNat:=by unfold LM;rw[if_neg (by omega),if_neg (by omega)];exact he
  rw[if_pos this,hx]
 ·rw[if_neg hj]
  by_cases h2:j<n.s.toNat+1
  ·simp only[FP,List.getElem?_map,List.getElem?_range h2,Option.map_some,List.take_length]
   have : ¬ (k:Int)=LM n inj j:=by unfold LM;rw[if_pos (by omega)];omega
   rw[if_neg this,Rat.add_zero]
  ·rw[List.getElem?_eq_none (by omega),List.getElem?_eq_none (by simp;omega)]
theorem Ae5 (c f:Int):Rat.divInt c (pw f)=((c:Int):Rat)/((pw f:Int):Rat):=by
 obtain ⟨d,hd⟩:=Int.eq_ofNat_of_zero_le (show 0<=pw f by have:=E0 f;omega);rw[hd,Rat.divInt_ofNat,Rat.mkRat_eq_div];rfl
theorem oE (n:Nt) (inj:Int) (k:Nat) (ts:List (Int × Int)) (t j:Nat) (hj:j<n.s.toNat+1):(FP n inj k ts t)[j]? = some (CD (FY n inj k j) (ts.take t)/((pw n.c.f:Int):Rat)):=by
 simp only[FP,List.getElem?_map,List.getElem?_range hj,Option.map_some]
theorem Alc (n:Nt) (inj:Int) (k:Nat) {ts:List (Int × Int)} {t j:Nat} {e:Int × Int} (he:ts[t]? = some e) (hj:j<n.s.toNat+1) :
  (FP n inj k ts (t+1))[j]? = some (CD (FY n inj k j) (ts.take t)/((pw n.c.f:Int):Rat)+((e.2:Int):Rat)/((pw n.c.f:Int):Rat)*(FY n inj k j).getD e.1.toNat 0):=by
 rw[oE n inj k ts (t+1) j hj,Qz he];congr 1;simp only[Rat.div_def];grind
theorem Ald (n:Nt) (inj:Int) (k:Nat) (ts:List (Int × Int)) {m:Nat} (hm:n.s.toNat=m):B8 (m+1) (-1)=FP n inj k ts 0:=by
 rw[FP,hm,B8];refine List.map_congr_left λ j _ => ?_
 rw[if_neg (by omega),List.take_zero,CD,Rat.div_def,Rat.zero_mul]
theorem Ahq (N:v8 L) (n:Nat) (j:Int) (hn:n<=65536):KQ L 135 [.int .i64 (n:Int),.int .i64 j] 3 ((B8 n j).map eQ):=by
 have hO:=KH N.toa9 0 (by omega);have hI:=KH N.toa9 1 (by omega);refine KQ.x N.PU rfl rfl ?_;(repeat' (apply AE<;>conv=>whnf))
 refine D4 (λ i=>n-i) (λ(i:Nat)=>i<=n) (λ i=>[(6,.int .i64 i),(5,.row 5 0 3 0 i)]) (λ i=>[(5,5,.rw 3 ((B8 i j).map eQ))]) 0 (by omega) ?_;intro i p1 ih;have hlen:=TW i j;by_cases hi:i<n
 ·have oa:=Alv i j
  by_cases hj:(i:Int)=j
  ·rw[if_pos hj]at oa
   (repeat' ((first|(apply AG<;>intro hc<;>try omega)|apply DQ|apply AE|refine AD (hI) ?_)<;>conv=>whnf))
   refine FA (enc:=eQ) ((1:Int):Rat) rfl hlen.symm rfl (by omega) (by omega) ?_;(conv=>whnf)
   (repeat' ((first|(apply AQ;omega)|fail)<;>conv=>whnf))
   rw[show (B8 i j++[((1:Int):Rat)]).length=i+1 by simp [hlen],show B8 i j++[((1:Int):Rat)]=B8 (i+1) j from oa.symm];exact BB [(5,18)] (ih (i+1) (by omega) (by omega))
  ·rw[if_neg hj]at oa
   (repeat' ((first|(apply AG<;>intro hc<;>try omega)|apply DQ|apply AE|refine AD (hO) ?_)<;>conv=>whnf))
   refine FA (enc:=eQ) ((0:Int):Rat) rfl hlen.symm rfl (by omega) (by omega) ?_;(conv=>whnf)
   (repeat' ((first|(apply AQ;omega)|fail)<;>conv=>whnf))
   rw[show (B8 i j++[((0:Int):Rat)]).length=i+1 by simp [hlen],show B8 i j++[((0:Int):Rat)]=B8 (i+1) j from oa.symm];exact BB [(5,22)] (ih (i+1) (by omega) (by omega))
 ·obtain rfl:i=n:=by omega
  clear ih;(repeat' ((first|(apply AG<;>intro hc<;>try omega)|apply AE)<;>conv=>whnf))
  exact ⟨rfl,rfl,by simp [hlen],rfl,KS _⟩
theorem vH (N:y5 L) (n:Nt) (inj:Int) (hv:DZ n=true) (ct:RY (BP n)) (ew:n.nodes.length<=5) (Ka:DT inj) :
  Ev L 163 [.agg (CO n),.int .i64 inj] (.sl false ((HG n inj n.nodes.length).map λ r=>[AV.sl false (r.map eQ)])):=by
 rw[C5]at hv;obtain ⟨h1,h2,h3,h4,h5,h6⟩:=hv;unfold DT at Ka;have hwf:0<=n.c.f/\n.c.f<=62:=by unfold WV at h2;omega
 have zq:=E0 n.c.f;have pt:(pw n.c.f).natAbs<=2^24:=by
  have hf:n.c.f<24:=by unfold WV at h2;omega
  have h9:(2:Nat)^n.c.f.toNat<=2^24:=Nat.pow_le_pow_right (by omega) (by omega);rw[pw];exact_mod_cast h9
 have e24:(2:Nat)^24=16777216:=rfl;obtain ⟨m,hm⟩ : ∃ m:Nat,n.s=m:=⟨n.s.toNat,(Int.toNat_of_nonneg (by omega)).symm⟩;have mv:n.s.toNat=m:=by omega
 have eu:(1+n.s).toNat=m+1:=by omega
 have hZ : ∀ j:Int,KQ L 135 [.int .i64 ((m:Int)+1),.int .i64 j] 3 ((B8 (m+1) j).map eQ):=λ j=>Ahq N.tov8 (m+1) j (by omega)
 have bk:EN n inj 0 0=B8 (m+1) (if inj<0 then n.s else -1):=by rw[Akd n inj (by omega),mv]
 have Lt : ∀ i:Nat,i<m->EN n inj 0 (i+1)=B8 (m+1) (i:Int):=λ i hi=>by rw[Akc n inj i (by omega) (by omega),mv]
 rw[hm]at bk;refine Ev.x N.PS rfl rfl ?_;refine Xl 6 ?_;(conv=>whnf)
 refine Xk 5 5 rfl ?_;(repeat' ((first|(apply AG<;>intro hc<;>try omega)|(apply AQ;omega)|apply AE)<;>conv=>whnf))
 all_goals rw[hm]
 rw[if_neg (by omega)]at bk;rotate_left
 rw[if_pos (by omega)]at bk;rotate_left
 all_goals
  refine TY (enc:=eQ) (m+1) (hZ _) (by simp [B8]) ?_;rw[<-bk];(conv=>whnf)
  refine A2 (by rw[List.length_map,VD,mv]) ?_;refine XM (ll:=[]) (r:=EN n inj 0 0) (en:=eQ) rfl (by simp) (by simp) ?_;(conv=>whnf)
  skip
  try refine BN (z7:=[(6,.int .i64 0),(5,.row 20 0 1 0 1),(2,.ptr 2 0 0 0),(0+1,.int .i64 inj)]) (M':=[(20,5,.mx (EL 3 eQ ([]++[EN n inj 0 0]))),(2,2,.bx [.int .i64 n.d.b,.int .i64 n.d.f,.int .i64 n.d.r,.int .i64 n.d.o,.int .i64 n.c.b,.int .i64 n.c.f,.int .i64 n.c.r,.int .i64 n.c.o,.int .i64 m,.sl n.qn (n.nodes.map TC),.sl n.qx (n.next.map BW),.int .i64 n.out])]) [(20,29)] (by (conv=>whnf);exact ⟨rfl,rfl,rfl⟩) ?_
  refine D4 (λ i=>m-i) (λ(i:Nat)=>i<=m) (λ i=>[(6,.int .i64 i),(5,.row 20 0 1 0 (1+i))]) (λ i=>[(20,5,.mx (EL 3 eQ ((List.range (1+i)).map (EN n inj 0))))]) 0 (by omega) ?_;intro i p1 ih;have hlr:((List.range (1+i)).map (EN n inj 0)).length=1+i:=by simp
  by_cases hi:i<m
  ·have Lt:=Lt i hi
   have Lb:(List.range (1+i)).map (EN n inj 0)++[EN n inj 0 (i+1)]=(List.range (1+(i+1))).map (EN n inj 0):=by
    rw[show 1+(i+1)=(1+i)+1 by omega,List.range_succ,List.map_append,List.map_singleton,Nat.add_comm i 1]
   (repeat' ((first|(apply AG<;>intro hc<;>try omega)|(apply AQ;omega)|apply AE)<;>conv=>whnf))
   refine TY (enc:=eQ) (m+1) (hZ _) (by simp [B8]) ?_;rw[<-Lt];(conv=>whnf)
   refine A2 (by rw[List.length_map,VD,mv]) ?_;refine XM (r:=EN n inj 0 (i+1)) (en:=eQ) hlr.symm (by omega) (by omega) ?_;rw[Lb,show ((List.range (1+(i+1))).map (EN n inj 0)).length=1+(i+1) by simp];(conv=>whnf)
   (repeat' ((first|(apply AQ;omega)|fail)<;>conv=>whnf))
   exact BB [(20,43)] (ih (i+1) (by omega) (by omega))
  obtain rfl:i=m:=by omega
  clear ih;rw[show (List.range (1+i)).map (EN n inj 0)=HG n inj 0 by rw[HG,eu,Nat.add_comm]];have j9:(BP n).length=n.nodes.length:=by simp [BP]
  (repeat' ((first|(apply AG<;>intro hc<;>try omega)|apply AE)<;>conv=>whnf))
  refine D8 (λ k=>n.nodes.length-k) (λ(k:Nat)=>k<=n.nodes.length) (λ k=>[(7,.int .i64 k),(5,.row 20 0 1 0 (i+1+k))]) (λ k=>[(20,5,.mx (EL 3 eQ (HG n inj k)))]) [] [] 0 (by first|exact (by (conv=>whnf);exact ⟨rfl,rfl,rfl⟩)|(rw[Nat.add_comm 1 i];exact (by (conv=>whnf);exact ⟨rfl,rfl,rfl⟩))) (by omega) ?_;intro k p2 ih;have cg:=eH n inj k;by_cases hk:k<n.nodes.length
  ·obtain ⟨nd,hnd⟩ : ∃ nd,n.nodes[k]? = some nd:=⟨_,zE hk⟩
   have uq:n.nodes[(k:Int).toNat]? = some nd:=hnd;have dd:(BP n)[k]? = some nd.ts:=by simp [BP,hnd]
   have Ax:=ZC h4 hnd;have hL:nd.ts.length<=5:=ct.len _ (zM dd);have hC:=ct.cf _ (zM dd);(repeat' ((first|(apply AG<;>intro hc<;>try omega)|(apply AQ;omega)|apply AP|apply AE)<;>conv=>whnf))
   refine TY (enc:=eQ) (i+1) (hZ _) (by simp [B8]) ?_;rw[show B8 (i+1) (-1)=FP n inj k nd.ts 0 from Ald n inj k nd.ts mv];(conv=>whnf)
   refine D4 (λ t=>nd.ts.length-t) (λ(t:Nat)=>t<=nd.ts.length) (λ t=>[(9,.int .i64 t)]) (λ t=>[(54,54,.rw 3 ((FP n inj k nd.ts t).map eQ))]) 0 (by omega) ?_;intro t p3 th;by_cases ht:t<nd.ts.length
   ·obtain ⟨e,he⟩ : ∃ e,nd.ts[t]? = some e:=⟨_,zE ht⟩
    have fh:nd.ts[(t:Int).toNat]? = some e:=he;have Dn:=zM he;have j7:=List.all_eq_true.1 Ax e Dn;simp only[FQ,decide_eq_true_eq]at j7;have Fy:=hC e Dn;have hF:=cL N.toa9 e.2 (pw n.c.f) (by omega) (by omega);rw[Ae5]at hF;have Ai:Bt 48 (((e.2:Int):Rat)/((pw n.c.f:Int):Rat)):=(Bt.ofInt Fy).tu zq pt;(repeat' ((first|(apply AG<;>intro hc<;>try omega)|apply AP|(refine A9 (by assumption) ?_ rfl ?_;omega)|apply AE)<;>conv=>whnf))
    refine D8 (λ j=>i+1-j) (λ(j:Nat)=>j<=i+1) (λ j=>[(11,.int .i64 j)]) (λ j=>[(54,54,.rw 3 (((FP n inj k nd.ts (t+1)).take j++(FP n inj k nd.ts t).drop j).map eQ))]) [] [] 0 (by first|exact (by (conv=>whnf);exact ⟨rfl,rfl,rfl⟩)|(rw[List.take_zero,List.nil_append,List.drop_zero];exact (by (conv=>whnf);exact ⟨rfl,rfl,rfl⟩))) (by omega) ?_;intro j p4 jh;have wq:(FP n inj k nd.ts (t+1)).length=i+1:=by simp [FP,mv]
    have fb:(FP n inj k nd.ts t).length=i+1:=by simp [FP,mv]
    have pg:((FP n inj k nd.ts (t+1)).take j++(FP n inj k nd.ts t).drop j).length=i+1:=by rw[List.length_append,List.length_take,List.length_drop];omega
    by_cases hj:j<i+1
    ·have Fv:=rL n inj k j h2 ct (by omega) ew
     have n6:=iN n inj k j (by omega);have k7:=Alc n inj k he (show j<n.s.toNat+1 by omega);have iq:=oE n inj k nd.ts t j (by omega);obtain ⟨x,hx⟩ : ∃ x,(EN n inj k e.1.toNat)[j]? = some x:=⟨_,zE (by rw[VD];omega)⟩;have Ha:(FY n inj k j).getD e.1.toNat 0=x:=by
      rw[EN,List.getElem?_map,List.getElem?_range (by omega),Option.map_some,Option.some.injEq]at hx;exact hx
     have qm:Bt 117150 x:=by rw[<-Ha];exact Fv.getD _
     rw[Ha]at k7;have Aj:Bt 586000 (CD (FY n inj k j) (nd.ts.take t)/((pw n.c.f:Int):Rat)):=by
      have a1:=Fv.sum (nd.ts.take t) (j:=24) (λ e he=>Bt.ofInt (hC e (List.mem_of_mem_take he)));have a2:Bt 585900 (CD (FY n inj k j) (nd.ts.take t)):=a1.le (by
       have:(nd.ts.take t).length<=5:=by rw[List.length_take];omega
       omega)
      exact (a2.tu zq pt).le (by omega)
     have Uf:(HG n inj k)[e.1.toNat]? = some (EN n inj k e.1.toNat):=by
      rw[HG,List.getElem?_map,List.getElem?_range (by omega)];rfl
     have gi:((FP n inj k nd.ts (t+1)).take j++(FP n inj k nd.ts t).drop j)[j]? = some (CD (FY n inj k j) (nd.ts.take t)/((pw n.c.f:Int):Rat)):=by
      rw[List.getElem?_append_right (by rw[List.length_take];omega),List.length_take,Nat.min_eq_left (by omega),Nat.sub_self,List.getElem?_drop,Nat.add_zero];exact iq
     have dz:=Ai2 (b:=FP n inj k nd.ts t) k7 (by omega);have Ec:=VD n inj k e.1.toNat;generalize CD (FY n inj k j) (nd.ts.take t)/((pw n.c.f:Int):Rat)=sm at *;have hM:=UQ N.toa9 Ai qm (by omega) (by omega);have hA:=R7 N.toa9 Aj (Ai.mul qm) (by omega) (by omega);(repeat' ((first|(apply AG<;>intro hc<;>try omega)|(apply A2;omega)|(refine FX ?_ (λ_ _ => ?_);omega)|(apply B3;omega)|(refine T9 ?_ (λ_=>rfl) (λ v hv => ?_);omega)|apply AE|refine AD (hF) ?_)<;>conv=>whnf))
     cases gi.symm.trans hv;skip
     refine Xb (by omega) (λ r hr => ?_);cases Uf.symm.trans hr;(conv=>whnf)
     skip
     refine A2 (by rw[List.length_map];omega) ?_;(conv=>whnf)
     refine Wz Uf ?_;(conv=>whnf)
     (repeat' ((first|(refine T9 ?_ (λ_=>rfl) (λ v hv => ?_);omega)|fail)<;>conv=>whnf))
     cases hx.symm.trans hv;(repeat' ((first|(apply A2;omega)|refine AD (hM) ?_|refine AD (hA) ?_)<;>conv=>whnf))
     refine KB (enc:=eQ) (sm+((e.2:Int):Rat)/((pw n.c.f:Int):Rat)*x) rfl (λ_=>rfl) (by omega) ?_;(conv=>whnf)
     rw[dz];(repeat' ((first|(apply AQ;omega)|fail)<;>conv=>whnf))
     exact BB [] (jh (j+1) (by omega) (by omega))
    ·obtain rfl:j=i+1:=by omega
     clear jh;rw[zT (by omega),List.drop_of_length_le (by omega),List.append_nil];(repeat' ((first|(apply AG<;>intro hc<;>try omega)|(apply AQ;omega)|apply AE)<;>conv=>whnf))
     exact BB [] (th (t+1) (by omega) (by omega))
   ·obtain rfl:t=nd.ts.length:=by omega
    clear th;have hI:=KH N.toa9 1 (by omega);have fb:(FP n inj k nd.ts nd.ts.length).length=i+1:=by simp [FP,mv]
    have Uh:=Akg n inj k dd hk;have Ea:=eH n inj (k+1);have iq:=oE n inj k nd.ts nd.ts.length i (by omega);have Fv:=rL n inj k i h2 ct (by omega) ew;have Aj:Bt 586000 (CD (FY n inj k i) (nd.ts.take nd.ts.length)/((pw n.c.f:Int):Rat)):=by
     have a1:=Fv.sum (nd.ts.take nd.ts.length) (j:=24) (λ e he=>Bt.ofInt (hC e (List.mem_of_mem_take he)));have a2:Bt 585900 (CD (FY n inj k i) (nd.ts.take nd.ts.length)):=a1.le (by
      have:(nd.ts.take nd.ts.length).length<=5:=by rw[List.length_take];omega
      omega)
     exact (a2.tu zq pt).le (by omega)
    have Ec:=VD n inj (k+1) ((1+n.s).toNat+k);by_cases Gj:(k:Int)=inj
    ·all_goals try omega
     all_goals
      have Ud:=Ake n inj k dd hk Gj (x:=CD (FY n inj k i) (nd.ts.take nd.ts.length)/((pw n.c.f:Int):Rat)) (by rw[mv];exact iq);rw[mv]at Ud;generalize CD (FY n inj k i) (nd.ts.take nd.ts.length)/((pw n.c.f:Int):Rat)=sm at *;have hA:=R7 N.toa9 Aj (Bt.ofInt (k:=0) (z:=1) (by decide)) (by omega) (by omega);(repeat' ((first|(apply AG<;>intro hc<;>try omega)|(apply A2;omega)|apply AP|(refine A9 (by assumption) ?_ rfl ?_;omega)|(refine T9 ?_ (λ_=>rfl) (λ v hv => ?_);omega)|apply AE|refine AD (hI) ?_)<;>conv=>whnf))
      cases iq.symm.trans hv;(repeat' ((first|(apply A2;omega)|refine AD (hA) ?_)<;>conv=>whnf))
      refine KB (enc:=eQ) (sm+1) rfl (λ_=>rfl) (by omega) ?_;(conv=>whnf)
      rw[Ud];refine A2 (by rw[List.length_map];omega) ?_;refine XM (r:=EN n inj (k+1) ((1+n.s).toNat+k)) (en:=eQ) (by omega) (by omega) (by omega) ?_;rw[<-Uh,Ea,eu];(conv=>whnf)
      (repeat' ((first|(apply AQ;omega)|fail)<;>conv=>whnf))
      exact BB [(20,123)] (ih (k+1) (by omega) (by omega))
    ·rw[Akf n inj k dd hk Gj]
     (repeat' ((first|(apply AG<;>intro hc<;>try omega)|apply AP|(refine A9 (by assumption) ?_ rfl ?_;omega)|apply AE)<;>conv=>whnf))
     refine A2 (by rw[List.length_map];omega) ?_;refine XM (r:=EN n inj (k+1) ((1+n.s).toNat+k)) (en:=eQ) (by omega) (by omega) (by omega) ?_;rw[<-Uh,Ea,eu];(conv=>whnf)
     (repeat' ((first|(apply AQ;omega)|fail)<;>conv=>whnf))
     exact BB [(20,123)] (ih (k+1) (by omega) (by omega))
  ·obtain rfl:k=n.nodes.length:=by omega
   clear ih;(repeat' ((first|(apply AG<;>intro hc<;>try omega)|apply AP|apply AE)<;>conv=>whnf))
   refine QQ (λ_=>rfl) rfl (by omega) ?_;(conv=>whnf)
   refine AW rfl ?_;simp only[AZ,true_and];exact S7 (λ r=>by simp only[BS,AZ,and_true,true_and];exact KS r) _
abbrev eV (r:List Rat):List AV:=[.sl false (r.map eQ)]
def EQ (n:Nt) (R:List (List Rat)):FE where
 a:=n.next.map λ e=>(R.getD e.toNat []).take n.s.toNat
 b:=n.next.map λ e=>(R.getD e.toNat []).getD n.s.toNat 0
 c:=(R.getD n.out.toNat []).take n.s.toNat
 d:=(R.getD n.out.toNat []).getD n.s.toNat 0
theorem vJ (N:y5 L) (n:Nt) (R:List (List Rat)) (hv:DZ n=true) (hR:(R.length:Int)=1+n.s+n.nodes.length) (hr : ∀ r∈R,r.length=n.s.toNat+1) :
  Ev L 164 [.agg (CO n),.sl false (R.map eV)] (.agg (eS (EQ n R))):=by
 rw[C5]at hv;obtain ⟨h1,h2,h3,h4,h5,h6⟩:=hv;have oo : ∀ e∈n.next,0<=e/\e<=n.s+n.nodes.length:=λ e he=>by simpa using List.all_eq_true.1 h5 e he
 obtain ⟨m,hm⟩ : ∃ m:Nat,n.s=m:=⟨n.s.toNat,(Int.toNat_of_nonneg (by omega)).symm⟩;have mv:n.s.toNat=m:=by omega
 obtain ⟨ro,ux⟩ : ∃ r,R[n.out.toNat]? = some r:=⟨_,zE (by omega)⟩;have AuS:=hr ro (zM ux);obtain ⟨x,hx⟩ : ∃ x,ro[m]? = some x:=⟨_,zE (by omega)⟩;have lf:ro[(m:Int).toNat]? = some x:=hx;have ep:(EQ n R).c=ro.take m:=by simp only[EQ,List.getD_eq_getElem?_getD,ux,mv,Option.getD_some]
 have nr:(EQ n R).d=x:=by simp only[EQ,List.getD_eq_getElem?_getD,ux,mv,Option.getD_some,hx]
 have bp:(EQ n R).a.length=m:=by simp [EQ];omega
 have jq:(EQ n R).b.length=m:=by simp [EQ];omega
 refine Ev.x N.PT rfl rfl ?_;(repeat' ((first|(refine A9 (by assumption) ?_ rfl ?_;omega)|apply AE)<;>conv=>whnf))
 rw[hm];refine LY (λ_=>rfl) (by omega) ?_;(conv=>whnf)
 (repeat' ((first|(refine A9 (by assumption) ?_ rfl ?_;omega)|fail)<;>conv=>whnf))
 refine FU (λ i _=>m-i) (λ(i:Nat) (f3:Bool)=>i<=m/\f3=decide (i=0)) (λ i f3=>[(6,.int .i64 i)]) (λ i f3=>bif f3 then [] else [(5,5,.bx ([.row 45 0 1 0 i,.row 62 0 3 0 i,.sl false ((ro.take m).map eQ)]++eQ x)),(45,45,.rw 1 (((EQ n R).a.take i).map eV)),(62,62,.rw 3 (((EQ n R).b.take i).map eQ))]) 0 true ⟨by omega,rfl⟩ ?_;intro i f3 ⟨p1,p2⟩ ih;by_cases hi:i<m
 ·obtain ⟨e,he⟩ : ∃ e,n.next[i]? = some e:=⟨_,zE (by omega)⟩
  have Ll:n.next[(i:Int).toNat]? = some e:=he
  have hen:=oo e (zM he);obtain ⟨re,Kw⟩ : ∃ r,R[e.toNat]? = some r:=⟨_,zE (by omega)⟩;have Dx:=hr re (zM Kw);obtain ⟨y,hy⟩ : ∃ y,re[m]? = some y:=⟨_,zE (by omega)⟩;have xd:re[(m:Int).toNat]? = some y:=hy;have ha:(EQ n R).a[i]? = some (re.take m):=by simp only[EQ,List.getElem?_map,he,Option.map_some,List.getD_eq_getElem?_getD,Kw,mv,Option.getD_some]
  have hb:(EQ n R).b[i]? = some y:=by simp only[EQ,List.getElem?_map,he,Option.map_some,List.getD_eq_getElem?_getD,Kw,mv,Option.getD_some,hy]
  have hta:((EQ n R).a.take i).length=i:=by rw[List.length_take];omega
  have Eg:((EQ n R).b.take i).length=i:=by rw[List.length_take];omega
  have Lg:((EQ n R).a.take (i+1)).length=i+1:=by rw[List.length_take];omega
  have Lh:((EQ n R).b.take (i+1)).length=i+1:=by rw[List.length_take];omega
  have Gt:=fU ha;have Ug:=fU hb;cases f3
  ·(repeat' ((first|(apply AG<;>intro hc<;>try omega)|(refine A9 (by assumption) ?_ rfl ?_;omega)|apply AE)<;>conv=>whnf))
   refine LY (λ_=>rfl) (by omega) ?_;(conv=>whnf)
   (repeat' (apply DQ<;>conv=>whnf))
   refine FA (enc:=eV) (re.take m) rfl hta.symm rfl (by omega) (by omega) ?_;rw[<-Gt,Lg];(conv=>whnf)
   (repeat' ((first|(refine A9 (by assumption) ?_ rfl ?_;omega)|apply DQ)<;>conv=>whnf))
   refine FA (enc:=eQ) y rfl Eg.symm rfl (by omega) (by omega) ?_;rw[<-Ug,Lh];(conv=>whnf)
   (repeat' ((first|(apply AQ;omega)|fail)<;>conv=>whnf))
   exact BB [(45,1000045),(62,1000062)] (ih (i+1) false (by omega) ⟨by omega,by simp⟩)
  ·obtain rfl:i=0:=by simpa using p2.symm
   (repeat' ((first|(apply AG<;>intro hc<;>try omega)|(refine A9 (by assumption) ?_ rfl ?_;omega)|apply AE)<;>conv=>whnf))
   refine LY (λ_=>rfl) (by omega) ?_;(conv=>whnf)
   (repeat' (apply DQ<;>conv=>whnf))
   refine SY (enc:=eV) (re.take m) rfl rfl (by omega) ?_;rw[show [re.take m]=(EQ n R).a.take (0+1) by rw[Gt];rfl];(conv=>whnf)
   (repeat' ((first|(refine A9 (by assumption) ?_ rfl ?_;omega)|apply DQ)<;>conv=>whnf))
   refine SY (enc:=eQ) y rfl rfl (by omega) ?_;rw[show [y]=(EQ n R).b.take (0+1) by rw[Ug];rfl];(conv=>whnf)
   (repeat' ((first|(apply AQ;omega)|fail)<;>conv=>whnf))
   exact BB [] (ih (0+1) false (by omega) ⟨by omega,by simp⟩)
 ·obtain rfl:i=m:=by omega
  clear ih;rw[zT (show (EQ n R).a.length<=i by omega),zT (show (EQ n R).b.length<=i by omega)];cases f3
  ·(repeat' ((first|(apply AG<;>intro hc<;>try omega)|apply AE)<;>conv=>whnf))
   refine CZ (enc:=eV) (λ_=>rfl) rfl bp.symm ?_;(conv=>whnf)
   refine CZ (enc:=eQ) (λ_=>rfl) rfl jq.symm ?_;(conv=>whnf)
   exact AW (by rw[<-nr,<-ep];rfl) (X7 _)
  ·obtain rfl:i=0:=by simpa using p2.symm
   have Ah:(EQ n R).a=[]:=List.eq_nil_of_length_eq_zero bp;have jc:(EQ n R).b=[]:=List.eq_nil_of_length_eq_zero jq;(repeat' ((first|(apply AG<;>intro hc<;>try omega)|apply AE)<;>conv=>whnf))
   exact AW (by rw[<-nr,<-ep,eS,Ah,jc];rfl) (X7 _)
theorem Aep (n:Nt) (inj:Int) (j:Nat) (hj:j<n.s.toNat):FY n inj n.nodes.length j=FO n ((j:Int)+1) (-1):=by
 have j9:(BP n).length=n.nodes.length:=by simp [BP]
 rw[FY,<-j9,List.take_length,LM,W9,if_pos hj,if_pos hj];rfl
theorem Aeo (n:Nt) (inj:Int):FY n inj n.nodes.length n.s.toNat=if inj<0 then FO n 0 (-1) else FO n (-1) inj:=by
 have j9:(BP n).length=n.nodes.length:=by simp [BP]
 rw[FY,<-j9,List.take_length];unfold LM W9;rw[if_neg (Nat.lt_irrefl _),if_neg (Nat.lt_irrefl _)];by_cases h:inj<0
 ·simp only[if_pos h];rfl
 ·simp only[if_neg h];rfl
theorem eI (n:Nt) (inj:Int) {m:Nat} (hm:m<(1+n.s).toNat+n.nodes.length):(HG n inj n.nodes.length).getD m []=EN n inj n.nodes.length m:=by
 rw[List.getD_eq_getElem?_getD,HG,List.getElem?_map,List.getElem?_range hm];rfl
theorem Mn (n:Nt) (inj:Int) (m:Nat):(EN n inj n.nodes.length m).take n.s.toNat=(List.range n.s.toNat).map λ(j:Nat)=>(FO n ((j:Int)+1) (-1)).getD m 0:=by
 rw[EN,<-List.map_take,List.range_succ,List.take_append_of_le_length (by simp),zT (by simp)];refine List.map_congr_left λ j hj => ?_
 rw[Aep n inj j (List.mem_range.1 hj)]
theorem Mm (n:Nt) (inj:Int) (m:Nat):(EN n inj n.nodes.length m).getD n.s.toNat 0=(if inj<0 then FO n 0 (-1) else FO n (-1) inj).getD m 0:=by
 rw[EN,List.getD_eq_getElem?_getD,List.getElem?_map,List.getElem?_range (by omega),Option.map_some,Option.getD_some,Aeo]
theorem Rg (n:Nt) (inj:Int) (hv:DZ n=true):EQ n (HG n inj n.nodes.length)=if inj<0 then E7 n else HE n inj:=by
 rw[C5]at hv;obtain ⟨h1,h2,h3,h4,h5,h6⟩:=hv;have oo : ∀ e∈n.next,0<=e/\e<=n.s+n.nodes.length:=λ e he=>by simpa using List.all_eq_true.1 h5 e he
 have ea:(EQ n (HG n inj n.nodes.length)).a=(E7 n).a:=by
  simp only[EQ,E7];refine List.map_congr_left λ e he => ?_
  have:=oo e he
  rw[eI n inj (by omega),Mn]
 have ec:(EQ n (HG n inj n.nodes.length)).c=(E7 n).c:=by
  simp only[EQ,E7];rw[eI n inj (by omega),Mn]
 have eb:(EQ n (HG n inj n.nodes.length)).b=n.next.map λ e=>(if inj<0 then FO n 0 (-1) else FO n (-1) inj).getD e.toNat 0:=by
  simp only[EQ];refine List.map_congr_left λ e he => ?_
  have:=oo e he
  rw[eI n inj (by omega),Mm]
 have ed:(EQ n (HG n inj n.nodes.length)).d=(if inj<0 then FO n 0 (-1) else FO n (-1) inj).getD n.out.toNat 0:=by
  simp only[EQ];rw[eI n inj (by omega),Mm]
 generalize EQ n (HG n inj n.nodes.length)=S at *;obtain ⟨a,b,c,d⟩:=S;simp only at ea eb ec ed;subst ea eb ec ed;split<;>rfl
theorem tU (I:c7 L) (N:y5 L) (n:Nt) (hv:DZ n=true) (ct:RY (BP n)) (ew:n.nodes.length<=5):Ev L 165 [.agg (CO n)] (.g8 [.agg (eS (E7 n)),.int .i64 0]):=by
 have hV:=cP n I N.tou4;rw[hv]at hV;have hR:=vH N n (-1) hv ct ew (by unfold DT;omega);have h3:=(C5 n).1 hv;have hS:=vJ N n (HG n (-1) n.nodes.length) hv (by rw[eH];omega) (λ r hr=>by
  obtain ⟨m,_,rfl⟩:=List.mem_map.1 hr;exact VD _ _ _ _)
 rw[Rg n (-1) hv,if_pos (by omega)]at hS;refine Ev.x N.PO rfl rfl ?_;(repeat' ((first|apply AE|refine AD (hV) ?_|refine AD (hR) ?_|refine AD (hS) ?_)<;>conv=>whnf))
 refine AW rfl ?_;simp only[AZ,BS,and_true];exact X7 (E7 n)
theorem Age (I:c7 L) (N:y5 L) (n:Nt) (node:Int) (hv:DZ n=true) (ct:RY (BP n)) (ew:n.nodes.length<=5) (hnI:DT node):Ev L 166 [.agg (CO n),.int .i64 node] (cV n node):=by
 have hV:=cP n I N.tou4;rw[hv]at hV;have h3:=(C5 n).1 hv;have hIn:=TD I node 0 ((n.nodes.length:Int)-1);refine Ev.x N.PM rfl rfl ?_;by_cases Dh:0<=node/\node<n.nodes.length
 ·have hR:=vH N n node hv ct ew hnI
  have hS:=vJ N n (HG n node n.nodes.length) hv (by rw[eH];omega) (λ r hr=>by
   obtain ⟨m,_,rfl⟩:=List.mem_map.1 hr;exact VD _ _ _ _)
  rw[Rg n node hv,if_neg (by omega)]at hS;rw[decide_eq_true (by omega)]at hIn;(repeat' ((first|(apply BL;omega)|apply AP|apply AE|refine AD (hV) ?_|refine AD (hIn) ?_|refine AD (hR) ?_|refine AD (hS) ?_)<;>conv=>whnf))
  rw[cV,if_pos Dh];refine AW rfl ?_;simp only[AZ,BS,and_true];exact X7 (HE n node)
 ·rw[decide_eq_false (by omega)]at hIn
  (repeat' ((first|(apply BL;omega)|apply AP|apply AE|refine AD (hV) ?_|refine AD (hIn) ?_)<;>conv=>whnf))
  rw[cV,if_neg Dh];exact AW rfl (Aee 1)
end Go.c6

namespace Go.c6
open Go.ChangeShapes Go.WideShapes Go.ChangeAt Go.RowKit
inductive Ty where
 | int (k:IntKind)
 | bool
 | sl (e:Ty)
 | nil
 | cons (a r:Ty)
def Ty.cells:Ty->Nat
 | .int _=>1 | .bool=>1 | .sl _=>1
 | .nil=>0
 | .cons a r=>a.cells+r.cells
def HT:Ty->List AV->Prop
 | .int k,cs => ∃ n,cs=[.int k n]/\(Lit.int k n).wf=true
 | .bool,cs => ∃ b,cs=[.bool b]
 | .sl e,cs => ∃ es,cs=[.sl true es]/\es.length<=maxLen /\ ∀ x∈es,HT e x
 | .nil,cs=>cs=[]
 | .cons a r,cs => ∃ x y,cs=x++y/\HT a x/\HT r y
theorem HT.len : ∀ {ty:Ty} {cs:List AV},HT ty cs->cs.length=ty.cells
 | .int _,cs,h=>by obtain ⟨n,rfl,_⟩:=h;rfl
 | .bool,cs,h=>by obtain ⟨n,rfl⟩:=h;rfl
 | .sl _,cs,h=>by obtain ⟨n,rfl,_⟩:=h;rfl
 | .nil,cs,h=>by rw[show cs=[] from h];rfl
 | .cons a r,cs,h=>by obtain ⟨x,y,rfl,h1,h2⟩:=h;simp [Ty.cells,HT.len h1,HT.len h2]
def LR (P:Program):Nat->TypeId->Ty->Bool
 | 0,_,_=>false
 | n+1,t,ty=>match P.underlying t,ty with
  | some (.int k),.int k'=>decide (k=k')
  | some .bool,.bool=>true
  | some (.slice e),.sl jn=>LR P n e jn&&(P.cellsOf e == jn.cells&&decide (0<jn.cells))
  | some (.struct fs),ty=>go (LR P n) fs.toList 0 ty&&P.cellsOf t == ty.cells
  | _,_=>false
where
 go (ok:TypeId->Ty->Bool):List Field->Nat->Ty->Bool
  | [],_,.nil=>true
  | f::fs,off,.cons a r=>(f.offset == off&&(ok f.type a&&P.cellsOf f.type == a.cells))&&go ok fs (off+a.cells) r
  | _,_,_=>false
section
variable {H:Type} {enc:TypeId × Value->H} {P:Program} {w:World} {base:Nat} {spare:Nat->Bool} {held:Bool} {R:Bool->Nat->Prop}
def I3 (w:World) (R:Bool->Nat->Prop) (as:List AV) (cs:List Value):Prop:=as.length=cs.length /\ ∀ (j:Nat) (a:AV) (c:Value),as[j]? = some a->cs[j]? = some c->Rd w R a c
theorem I3.one {a:AV} {c:Value} (h:Rd w R a c):I3 w R [a] [c]:=by
 refine ⟨rfl,λ j a' c' h1 h2 => ?_⟩;cases j with
 | zero=>simp at h1 h2;subst h1 h2;exact h
 | succ j=>simp at h1
theorem I3.append {as bs:List AV} {cs ds:List Value} (h1:I3 w R as cs) (h2:I3 w R bs ds):I3 w R (as++bs) (cs++ds):=by
 refine ⟨by simp [h1.1,h2.1],λ j a c ha hc => ?_⟩;by_cases hj:j<as.length
 ·rw[List.getElem?_append_left hj]at ha
  rw[List.getElem?_append_left (by rw[<-h1.1];exact hj)]at hc;exact h1.2 j a c ha hc
 ·rw[List.getElem?_append_right (by omega)]at ha
  rw[List.getElem?_append_right (by rw[<-h1.1];omega),<-h1.1]at hc;exact h2.2 _ a c ha hc
theorem qA (a:Addr) (i:Nat) (h:a.spot=none):a.add i=⟨a.block,a.off+i,none⟩:=by
 obtain ⟨b,o,s⟩:=a;simp only at h;subst h;exact IK b o i
theorem Nq (hR : ∀ b,b<w.heap.size->R true b) (m:Nat) (ih : ∀ (ty:Ty) (t:TypeId) (cs:List Value) (fuel:Nat) (x:DataW H × List MemPlace),LR P m t ty=true->DataW.trod enc P w base spare held fuel t cs=some x -> ∃ as,HT ty as/\I3 w R as cs)
  (n:Nat) (cs:List Value) : ∀ (fs:List Field) (off:Nat) (ty:Ty),LR.go P (LR P m) fs off ty=true->(∀ f∈fs,∃ y,DataW.trod enc P w base spare held n f.type ((cs.drop f.offset).take (P.cellsOf f.type))=some y)->off+ty.cells=cs.length -> ∃ as,HT ty as/\I3 w R as (cs.drop off)
 | [],off,ty,j7,_,hl=>by
  cases ty<;>simp only[LR.go,Bool.false_eq_true]at j7;simp only[Ty.cells]at hl;exact ⟨[],rfl,by rw[List.drop_of_length_le (by omega)];exact ⟨rfl,λ j a c h=>by simp at h⟩⟩
 | f::fs,off,ty,j7,hf,hl=>by
  cases ty<;>simp only[LR.go,Bool.false_eq_true,Bool.and_eq_true,beq_iff_eq]at j7;rename_i a r;obtain ⟨⟨h1,h2,h3⟩,h4⟩:=j7;simp only[Ty.cells]at hl;obtain ⟨y,hy⟩:=hf f List.mem_cons_self;rw[h1,h3]at hy;obtain ⟨Rn,g1,g2⟩:=ih a f.type _ n y h2 hy;obtain ⟨Ro,g3,g4⟩:=Nq hR m ih n cs fs (off+a.cells) r h4 (λ f' h'=>hf f' (List.mem_cons_of_mem _ h')) (by omega);refine ⟨Rn++Ro,⟨Rn,Ro,rfl,g1,g3⟩,?_⟩;have:=g2.append g4
  rwa [show (cs.drop off).take a.cells++cs.drop (off+a.cells)=cs.drop off by rw[<-List.drop_drop,List.take_append_drop]]at this
theorem mN (hR : ∀ b,b<w.heap.size->R true b) : ∀ (m:Nat) (ty:Ty) (t:TypeId) (cs:List Value) (fuel:Nat) (x:DataW H × List MemPlace),LR P m t ty=true->DataW.trod enc P w base spare held fuel t cs=some x -> ∃ as,HT ty as/\I3 w R as cs
 | 0,_,_,_,_,_,h,_=>by simp [LR]at h
 | m+1,ty,t,cs,fuel,x,j7,h=>by
  have ih:=mN hR m;simp only[LR]at j7;split at j7
  ·rename_i k k' hu
   obtain rfl:k=k':=by simpa using j7
   obtain ⟨n,rfl,_,hw⟩:=DataW.trod_int hu h;exact ⟨[.int k n],⟨n,rfl,hw⟩,I3.one (.int k n)⟩
  ·rename_i hu
   cases fuel with
   | zero=>simp [DataW.trod]at h
   | succ fuel =>
    unfold DataW.trod at h;rw[hu]at h;split at h<;>simp_all
    exact ⟨_,⟨_,rfl⟩,I3.one (.bool _)⟩
  ·rename_i e jn hu
   simp only[Bool.and_eq_true,beq_iff_eq,decide_eq_true_eq]at j7;obtain ⟨h1,h2,h3⟩:=j7;rcases DataW.trod_slice hu h with ⟨rfl,_⟩|⟨a,len,cap,elems,rest,n,_,rfl,_,hb,hl,hm,hlen,cp,_,_⟩
   ·exact ⟨[.sl true []],⟨[],rfl,by simp,by simp⟩,I3.one (.gu true none 0)⟩
   ·have each : ∀ i,i<len -> ∃ as cn,HT jn as/\I3 w R as cn/\cn.length=jn.cells /\ ∀ j,j<jn.cells->w.cell? ((a.add (i*jn.cells)).add j)=cn[j]? := by
     intro i hi;have:=cp i hi
     rw[h2,zE (by omega),Option.bind_eq_some_iff]at this;obtain ⟨cn,hc,ht⟩:=this;obtain ⟨as,g1,g2⟩:=ih jn e cn n _ h1 ht;obtain ⟨_,q1,q2⟩:=World.cells?_some hc;exact ⟨as,cn,g1,g2,q1,q2⟩
    by_cases h0:len=0
    ·subst h0
     exact ⟨[.sl true []],⟨[],rfl,by simp,by simp⟩,I3.one (.gu true (some a) cap)⟩
    ·have wx:a.spot=none:=by
      obtain ⟨as,cn,_,_,q1,q2⟩:=each 0 (by omega);have:=q2 0 h3
      rw[zE (by omega)]at this;simpa [Addr.add] using World.cell?_spot this
     have kb:a.block<w.heap.size:=by
      obtain ⟨as,cn,_,_,q1,q2⟩:=each 0 (by omega);have:=q2 0 h3
      rw[zE (by omega)]at this;simpa [Addr.add] using UF this
     have pick : ∃ f:Nat->List AV × List Value,∀ i,i<len->HT jn (f i).1/\I3 w R (f i).1 (f i).2/\(f i).2.length=jn.cells /\ ∀ j,j<jn.cells->w.cell? ((a.add (i*jn.cells)).add j)=(f i).2[j]? := by
      refine ⟨λ i=>if hi:i<len then (Classical.choose (each i hi),Classical.choose (Classical.choose_spec (each i hi))) else ([],[]),λ i hi => ?_⟩;simp only[hi,dif_pos];exact Classical.choose_spec (Classical.choose_spec (each i hi))
     obtain ⟨f,hf⟩:=pick;have n7 : ∀ i e',((List.range len).map λ i=>(f i).1)[i]? = some e'->i<len/\e'=(f i).1:=by
      intro i e' he;rw[List.getElem?_map]at he;by_cases hi:i<len
      ·rw[List.getElem?_range hi]at he
       simp at he;exact ⟨hi,he.symm⟩
      ·rw[List.getElem?_eq_none (by simpa using hi)]at he
       cases he
     refine ⟨[.sl true ((List.range len).map λ i=>(f i).1)],⟨_,rfl,by simp;omega,λ x hx => ?_⟩,I3.one ?_⟩
     ·obtain ⟨i,hi,rfl⟩:=List.mem_map.1 hx
      exact (hf i (List.mem_range.1 hi)).1
     ·obtain ⟨ab,ao,as⟩:=a
      simp only at wx;subst wx;have wm:((List.range len).map λ i=>(f i).1).length=len:=by simp
      have:=Rd.sl (w:=w) (R:=R) true ((List.range len).map λ i=>(f i).1) ab ao jn.cells cap (λ i j=>((f i).2[j]?).getD default) (by intro e;have:=congrArg List.length e;simp at this;omega) h3 (hR ab kb) (by rw[wm];exact hl)
       (λ e' he=>by
        obtain ⟨i,hi,rfl⟩:=List.mem_map.1 he;exact (hf i (List.mem_range.1 hi)).1.len)
       (λ i e' he j c hc=>by
        obtain ⟨hi,rfl⟩:=n7 i e' he;obtain ⟨g1,g2,g3,g4⟩:=hf i hi;have hj:j<jn.cells:=by
         have:=(zS hc).1
         rwa [g1.len]at this
        have h5:=g4 j hj;rw[qA ⟨ab,ao,none⟩ (i*jn.cells) rfl,qA _ _ rfl]at h5;simp only at h5;rw[show ao+(i*jn.cells+j)=ao+i*jn.cells+j by omega,h5,zE (by omega)];rfl)
       (λ i e' he j c hc=>by
        obtain ⟨hi,rfl⟩:=n7 i e' he;obtain ⟨g1,g2,g3,g4⟩:=hf i hi;have hj:j<jn.cells:=by
         have:=(zS hc).1
         rwa [g1.len]at this
        have h6:(f i).2[j]? = some ((f i).2[j]'(by omega)):=zE _;rw[h6];exact g2.2 j c _ hc h6)
      rwa [wm]at this
  ·rename_i fs hu
   simp only[Bool.and_eq_true,beq_iff_eq]at j7;obtain ⟨h1,h2⟩:=j7;obtain ⟨xs,n,_,_,hl,hlen,hf⟩:=DataW.trod_struct hu h;have:=Nq hR m ih n cs fs.toList 0 _ h1 (λ f kj=>by
    obtain ⟨i,hi,rfl⟩:=List.getElem_of_mem kj;have h5:=hf i fs.toList[i] (by simp);rw[h5,zE (by simpa [hlen] using hi)];exact ⟨_,rfl⟩) (by rw[hl,h2];omega)
   simpa using this
  ·exact absurd j7 (by simp)
theorem Ajy {S:Nat->Prop} {ty:Ty} {t:TypeId} {v:Value} {d:DataW H} {ps:List MemPlace} {m:Nat} (j7:LR P m t ty=true) (hv:v.cells.toList=[v]) (h:DataW.Trod enc P w base spare held t v d ps) :
  ∃ a,HT ty [a]/\CA w.heap.size S ⟨λ_ _=>none,AJ.emp,w⟩ a v:=by
 obtain ⟨fuel,hf⟩:=h;rw[hv]at hf;obtain ⟨as,h1,h2⟩:=mN (R:=safe w.heap.size S ⟨λ_ _=>none,AJ.emp,w⟩) (λ b hb=>Or.inr (Or.inr ⟨rfl,hb⟩)) m ty t [v] fuel _ j7 hf;obtain ⟨a,rfl⟩ : ∃ a,as=[a]:=by
  have:=h2.1
  match as,this with
  | [a],_=>exact ⟨a,rfl⟩
 exact ⟨a,h1,.one (.rd (h2.2 0 a v rfl rfl))⟩
theorem Ajz {S:Nat->Prop} {ty:Ty} {t:TypeId} {cs:Array Value} {d:DataW H} {ps:List MemPlace} {m:Nat} (j7:LR P m t ty=true) (h:DataW.Trod enc P w base spare held t (.agg cs) d ps) :
  ∃ as,HT ty as/\CA w.heap.size S ⟨λ_ _=>none,AJ.emp,w⟩ (.agg as) (.agg cs):=by
 obtain ⟨fuel,hf⟩:=h;obtain ⟨as,h1,h2⟩:=mN (R:=safe w.heap.size S ⟨λ_ _=>none,AJ.emp,w⟩) (λ b hb=>Or.inr (Or.inr ⟨rfl,hb⟩)) m ty t cs.toList fuel _ j7 hf;refine ⟨as,h1,?_⟩;have:=CA.agg (B:=w.heap.size) (S:=S) (m:=⟨λ_ _=>none,AJ.emp,w⟩) as cs.toList ⟨h2.1,λ j c v hc hv => .rd (h2.2 j c v hc hv)⟩
 simpa using this
end
theorem Zh {B:Nat} {S:Nat->Prop} {m:M} : ∀ (j:Nat) (c:AV) (v:Value),([]:List AV)[j]? = some c->([]:List Value)[j]? = some v->CA B S m c v:=λ j c v h=>by simp at h
theorem qF {B:Nat} {S:Nat->Prop} {m:M} {a:AV} {u:Value} {as:List AV} {us:List Value} (h:CA B S m a u) (hr : ∀ (j:Nat) (c:AV) (v:Value),as[j]? = some c->us[j]? = some v->CA B S m c v) :
  ∀ (j:Nat) (c:AV) (v:Value),(a::as)[j]? = some c->(u::us)[j]? = some v->CA B S m c v
 | 0,c,v,h1,h2=>by simp at h1 h2;subst h1 h2;exact h
 | j+1,c,v,h1,h2=>hr j c v (by simpa using h1) (by simpa using h2)
theorem AiJ {P:Program} {num:Nat->Nat} {L:Lib} (hP:ProgOK P num L) {f:Nat} {vs:List AV} (h:Ev L f vs (.bool true)) {S:Nat->Prop} {w:World} {us:List Value} (hl:vs.length=us.length)
  (ha : ∀ (j:Nat) (c:AV) (v:Value),vs[j]? = some c->us[j]? = some v->CA w.heap.size S ⟨λ_ _=>none,AJ.emp,w⟩ c v) :
  Calls P (num f) us.toArray w λ e w'=>e = .returned (.bool true)/\Below w.heap.size w w':=by
 obtain ⟨n,hn⟩:=h;refine ((Aeb hP n).pure f vs _ hn S w us hl ha).mono ?_;rintro e w' ⟨u,rfl,hb,v9,_⟩
 refine ⟨?_,hb⟩;cases v9 with
 | ca om=>cases om with
  | one x8=>cases x8 with
   | rd jt=>cases jt;rfl
end Go.c6

namespace Go.c6
set_option maxHeartbeats 4000000
abbrev tI:Ty := .int .i64
theorem yN {α:Type} {enc:α->List AV} {p:α->Prop} : ∀ {es:List (List AV)},(∀ x∈es,∃ y,x=enc y/\p y) -> ∃ l:List α,es=l.map enc /\ ∀ y∈l,p y
 | [],_=>⟨[],rfl,by simp⟩
 | e::es,h=>by
  obtain ⟨y,rfl,hy⟩:=h e List.mem_cons_self;obtain ⟨l,rfl,hl⟩:=yN (enc:=enc) (p:=p) λ x hx=>h x (List.mem_cons_of_mem _ hx)
  exact ⟨y::l,rfl,by simpa using ⟨hy,hl⟩⟩
theorem Aic {α:Type} {enc:α->List AV} {p:α->Prop} {e:Ty} {cs:List AV} (he : ∀ x,HT e x -> ∃ y,x=enc y/\p y) (h:HT (.sl e) cs) : ∃ l:List α,cs=[.sl true (l.map enc)]/\l.length<9223372036854775808 /\ ∀ y∈l,p y:=by
 obtain ⟨es,rfl,hl,hx⟩:=h;obtain ⟨l,rfl,hp⟩:=yN (enc:=enc) (p:=p) λ x hm=>he x (hx x hm)
 refine ⟨l,rfl,?_,hp⟩;have:maxLen=9223372036854775807:=rfl
 simp at hl;omega
theorem AlE {n:Int} (h:(Lit.int .i64 n).wf=true):DT n:=by
 simp only[Lit.wf,Bool.and_eq_true,decide_eq_true_eq]at h;have h1:IntKind.i64.min = -9223372036854775808:=rfl;have h2:IntKind.i64.max=9223372036854775807:=rfl;rw[h1,h2]at h;unfold DT;constructor<;>omega
theorem cU {cs:List AV} (h:HT tI cs) : ∃ n,cs=BW n/\DT n:=by obtain ⟨n,rfl,hw⟩:=h;exact ⟨n,rfl,AlE hw⟩
theorem kZ {cs:List AV} (h:HT (.sl tI) cs) : ∃ l:List Int,cs=[.sl true (l.map BW)]/\l.length<9223372036854775808 /\ ∀ v∈l,DT v:=Aic (λ_=>cU) h
theorem mF (x:Rat):x.num<0↔x<0:=by rw[<-Int.not_le,Rat.num_nonneg,Rat.not_le]
theorem LZ (x:Rat):A4 x=if x<0 then -x else x:=by
 unfold A4;by_cases h:x<0
 ·rw[if_pos h,if_pos ((mF x).2 h)]
 ·rw[if_neg h,if_neg (λ e=>h ((mF x).1 e))]
theorem QU {a b c d:Rat} (h1:a<=b) (h2:c<=d):a+c<=b+d:=by grind
theorem S5 (x:Rat):0<=A4 x:=by
 rw[LZ];split
 ·grind
 ·grind
theorem UC (x y:Rat):A4 (x*y)=A4 x*A4 y:=by
 have pp : ∀ a b:Rat,0<=a->0<=b->0<=a*b:=λ a b=>Rat.mul_nonneg
 rw[LZ,LZ,LZ];by_cases hx:x<0
 ·by_cases hy:y<0
  ·have h:=pp (-x) (-y) (by grind) (by grind)
   rw[if_pos hx,if_pos hy,if_neg (by rw[Rat.not_lt];grind)];grind
  ·have h:=pp (-x) y (by grind) (by grind)
   rw[if_pos hx,if_neg hy];by_cases h0:x*y<0
   ·rw[if_pos h0];grind
   ·rw[if_neg h0];grind
 ·by_cases hy:y<0
  ·have h:=pp x (-y) (by grind) (by grind)
   rw[if_neg hx,if_pos hy];by_cases h0:x*y<0
   ·rw[if_pos h0];grind
   ·rw[if_neg h0];grind
  ·have h:=pp x y (by grind) (by grind)
   rw[if_neg hx,if_neg hy,if_neg (by grind)]
theorem VZ (x y:Rat):A4 (x+y)<=A4 x+A4 y:=by
 rw[LZ,LZ,LZ];split<;>split<;>split<;>grind
theorem aX {x:Rat} (h:0<=x):A4 x=x:=by
 rw[LZ,if_neg (by grind)]
theorem V0:A4 0=0:=aX (by decide)
def BF:List Rat->Rat
 | []=>0
 | x::l=>A4 x+BF l
theorem Nc (x:Rat) : ∀ l,BF (l++[x])=BF l+A4 x
 | []=>by simp only[List.nil_append,BF];grind
 | y::l=>by
  simp only[List.cons_append,BF,Nc x l];grind
theorem eR : ∀ l,0<=BF l
 | []=>by simp [BF]
 | x::l=>by
  have h1:=S5 x;have h2:=eR l;simp only[BF];grind
theorem eT {c:Rat} (hc:0<=c) : ∀ l,BF (l.map (· * c))=BF l*c
 | []=>by simp only[List.map_nil,BF];grind
 | x::l=>by
  simp only[List.map_cons,BF,eT hc l,UC,aX hc];grind
def HW (m x:Rat):Rat:=if m<A4 x then A4 x else m
def CG (l:List Rat):Rat:=l.foldl HW 0
theorem AhK (l:List Rat) (x:Rat):CG (l++[x])=HW (CG l) x:=by rw[CG,List.foldl_append];rfl
theorem AhG (m x:Rat):m<=HW m x/\A4 x<=HW m x:=by
 unfold HW;split<;>exact ⟨by grind,by grind⟩
theorem AhH {c:Rat} (hc:0<c) (m x:Rat):HW (m*c) (x*c)=HW m x*c:=by
 unfold HW;rw[UC,aX (show 0<=c by grind)];by_cases h:m<A4 x
 ·rw[if_pos h,if_pos ((Rat.mul_lt_mul_right hc).2 h)]
 ·rw[if_neg h,if_neg (λ h1=>h ((Rat.mul_lt_mul_right hc).1 h1))]
theorem wH {c:Rat} (hc:0<c) : ∀ (l:List Rat) (m:Rat),(l.map (· * c)).foldl HW (m*c)=l.foldl HW m*c
 | [],_=>rfl
 | x::l,m=>by rw[List.map_cons,List.foldl_cons,List.foldl_cons,AhH hc,wH hc l]
theorem AhJ {c:Rat} (hc:0<c) (l:List Rat):CG (l.map (· * c))=CG l*c:=by
 have:=wH hc l 0
 rwa [Rat.zero_mul]at this
theorem kO : ∀ (l:List Rat) (m:Rat),m<=l.foldl HW m /\ ∀ x∈l,A4 x<=l.foldl HW m
 | [],m=>⟨Rat.le_refl,λ x h=>by cases h⟩
 | y::l,m=>by
  obtain ⟨h1,h2⟩:=kO l (HW m y);obtain ⟨h3,h4⟩:=AhG m y;refine ⟨Rat.le_trans h3 h1,λ x hx => ?_⟩;rcases List.mem_cons.1 hx with rfl|hx
  ·exact Rat.le_trans h4 h1
  ·exact h2 x hx
theorem wW {l:List Rat} {x:Rat} (h:x∈l):A4 x<=CG l:=(kO l 0).2 x h
theorem WO (l:List Rat):0<=CG l:=(kO l 0).1
theorem AhI {l:List Rat} {c:Rat} (hc:0<=c) (h : ∀ x∈l,A4 x<=c):CG l<=c:=by
 have : ∀ (l:List Rat) (m:Rat),m<=c->(∀ x∈l,A4 x<=c)->l.foldl HW m<=c:=by
  intro l;induction l with
  | nil=>intro m hm _;exact hm
  | cons x l ih =>
   intro m hm h;refine ih _ ?_ λ y hy=>h y (List.mem_cons_of_mem _ hy)
   unfold HW;split
   ·exact h x List.mem_cons_self
   ·exact hm
 exact this l 0 hc h
theorem jI : ∀ (r v:List Rat) (g:Rat),0<=g->(∀ x∈v,A4 x<=g)->A4 (A3 r v)<=BF r*g
 | [],v,g,hg,_=>by
  have:A3 [] v=0:=by cases v<;>rfl
  rw[this,V0];simp only[BF];grind
 | x::r,[],g,hg,_=>by
  show A4 0<=_;rw[V0];exact Rat.mul_nonneg (eR _) hg
 | x::r,y::v,g,hg,h=>by
  have h1:=jI r v g hg λ z hz=>h z (List.mem_cons_of_mem _ hz)
  have h2:=h y List.mem_cons_self;have h3:A4 x*A4 y<=A4 x*g:=Rat.mul_le_mul_of_nonneg_left h2 (S5 x);have h4:=VZ (x*y) (A3 r v);rw[UC]at h4;simp only[A3,BF];rw[Rat.add_mul];exact Rat.le_trans h4 (QU h3 h1)
theorem Aji {a:List (List Rat)} {s:Rat} (hs:0<=s) (h : ∀ r∈a,BF r<=s) (v:List Rat):CG (DB a v)<=s*CG v:=by
 refine AhI (Rat.mul_nonneg hs (WO v)) λ x hx => ?_
 obtain ⟨r,hr,rfl⟩:=List.mem_map.1 hx;exact Rat.le_trans (jI r v _ (WO v) λ y hy=>wW hy) (Rat.mul_le_mul_of_nonneg_right (h r hr) (WO v))
def DJ (a:List (List Rat)):Bool:=a.all λ r=>decide (BF r<=1/2)
def B2 (n:Nat) (a:List (List Rat)):Nat->List (List Rat)
 | 0=>a
 | k+1=>HF (B2 n a k) (B2 n a k) n
theorem TT {n:Nat} {a:List (List Rat)} (h:Sq n a) : ∀ k,Sq n (B2 n a k)
 | 0=>h
 | k+1=>Sq.mul (TT h k).l _
def B9 (c:Rat) (a:List (List Rat)):List (List Rat):=a.map λ r=>r.map (· * c)
theorem Nh (c:Rat) (a:List (List Rat)):(B9 c a).length=a.length:=by simp [B9]
theorem eU {n:Nat} (c:Rat) {a:List (List Rat)} (h : ∀ r∈a,r.length=n) : ∀ r∈B9 c a,r.length=n:=λ r hr=>by
 obtain ⟨s,hs,rfl⟩:=List.mem_map.1 hr;rw[List.length_map];exact h s hs
theorem nJ {n:Nat} (c:Rat) {a:List (List Rat)} (h:Sq n a):Sq n (B9 c a):=⟨by rw[Nh,h.l],eU c h.r⟩
theorem AkH {c:Rat} {a:List (List Rat)} {i:Nat} {r:List Rat} (h:a[i]? = some r):(B9 c a)[i]? = some (r.map (· * c)):=by rw[B9,List.getElem?_map,h];rfl
theorem AhC (r:List Rat) (c:Rat) (j:Nat):(r.map (· * c)).getD j 0=r.getD j 0*c:=by
 rw[List.getD_eq_getElem?_getD,List.getD_eq_getElem?_getD,List.getElem?_map];cases r[j]? with
 | none=>simp [Rat.zero_mul]
 | some x=>rfl
theorem Aer (c:Rat) (a:List (List Rat)) (j:Nat):C9 (B9 c a) j=(C9 a j).map (· * c):=by
 rw[C9,C9,B9,List.map_map,List.map_map];exact List.map_congr_left λ r _=>AhC r c j
theorem jF (c d:Rat) (u v:List Rat):A3 (u.map (· * c)) (v.map (· * d))=A3 u v*(c*d):=by
 rw[cD,TA,cD,TA];grind
theorem Aja (c d:Rat) (a b:List (List Rat)) (n:Nat):HF (B9 c a) (B9 d b) n=B9 (c*d) (HF a b n):=by
 show (a.map λ r=>r.map (· * c)).map (λ r=>EZ r (B9 d b) n)=(a.map λ r=>EZ r b n).map (λ r=>r.map (· * (c*d)));rw[List.map_map,List.map_map];refine List.map_congr_left λ r _ => ?_
 show EZ (r.map (· * c)) (B9 d b) n=(EZ r b n).map (· * (c*d));rw[EZ,EZ,List.map_map];refine List.map_congr_left λ j _ => ?_
 show A3 (r.map (· * c)) (C9 (B9 d b) j)=A3 r (C9 b j)*(c*d);rw[Aer,jF]
theorem Ajg (c d:Rat) (a:List (List Rat)) (v:List Rat):DB (B9 c a) (v.map (· * d))=(DB a v).map (· * (c*d)):=by
 show (a.map λ r=>r.map (· * c)).map (λ r=>A3 r (v.map (· * d)))=(a.map λ r=>A3 r v).map (· * (c*d));rw[List.map_map,List.map_map];exact List.map_congr_left λ r _=>jF c d r v
def DU (D:Rat):Nat->Rat
 | 0=>D
 | i+1=>DU D i*DU D i
theorem jD {D:Rat} (h:0<D) : ∀ i,0<DU D i
 | 0=>h
 | i+1=>Rat.mul_pos (jD h i) (jD h i)
theorem Mi (n:Nat) (a:List (List Rat)) (D:Rat) (i:Nat):HF (B9 (DU D i) (B2 n a i)) (B9 (DU D i) (B2 n a i)) n=B9 (DU D (i+1)) (B2 n a (i+1)):=Aja _ _ _ _ _
theorem wZ {s D:Rat} (hD:0<D):s*D+s*D<=D↔s<=1/2:=by
 have e:s*D+s*D=(s+s)*D:=by grind
 have h1:(s+s)*D<=1*D↔s+s<=1:=⟨λ h=>Rat.le_of_mul_le_mul_right h hD,λ h=>Rat.mul_le_mul_of_nonneg_right h (by grind)⟩;rw[Rat.one_mul]at h1;rw[e,h1];constructor<;>intro h<;>grind
theorem Qh {k:Nat} {x:Rat} (hx:Bt k x) {S:Nat} {z:Int} (hz:x*(S:Rat)=(z:Rat)) {M:Nat} (hS:S<=2^M):Wh (k+M) (x*(S:Rat)):=by
 refine ⟨z,hz,?_⟩;have h1:=U4 x;have h2:((z*(x.den:Int):Int):Rat)=((x.num*(S:Int):Int):Rat):=by
  rw[Rat.intCast_mul,Rat.intCast_mul,<-h1,<-hz,Rat.intCast_natCast,Rat.intCast_natCast];grind
 have h3:=congrArg Int.natAbs (Rat.intCast_inj.1 h2);rw[Int.natAbs_mul,Int.natAbs_mul,Int.natAbs_natCast,Int.natAbs_natCast]at h3;have h4:z.natAbs<=z.natAbs*x.den:=Nat.le_mul_of_pos_right _ x.den_pos;rw[Nat.pow_add];exact Nat.le_trans h4 (by rw[h3];exact Nat.mul_le_mul hx.1 hS)
theorem Akv (S:Nat) (x:Rat):((S:Rat)*x).den ∣ x.den:=by
 refine iW (z:=S*x.num) ?_;have h:=U4 x;rw[Rat.intCast_mul,<-h,Rat.intCast_natCast];grind
theorem Mx {k:Nat} : ∀ (l:List Rat) (S:Nat),0<S->Bs k l -> ∃ S':Nat,l.foldl ZW (S:Rat)=(S':Rat)/\0<S'/\S'<=S*2^(l.length*k)/\S ∣ S' /\ ∀ x∈l,∃ z:Int,x*(S':Rat)=(z:Rat)
 | [],S,h,_=>⟨S,rfl,h,by simp,Nat.dvd_refl S,λ x hx=>by cases hx⟩
 | x::l,S,h,hb=>by
  have h1:=Akv S x;have hx:=hb x List.mem_cons_self;have h2:((S:Rat)*x)*((((S:Rat)*x).den:Nat):Rat)=(((S:Rat)*x).num:Rat):=U4 _;have h3:=Nat.le_of_dvd x.den_pos h1;have h4:=((S:Rat)*x).den_pos;generalize ((S:Rat)*x).num=u at h2;obtain ⟨S',e,p1,p2,p3,p4⟩:=Mx l (S*((S:Rat)*x).den) (Nat.mul_pos h h4) λ y hy=>hb y (List.mem_cons_of_mem _ hy)
  refine ⟨S',by rw[List.foldl_cons,<-e,ZW,Rat.natCast_mul],p1,?_,Nat.dvd_trans (Nat.dvd_mul_right _ _) p3,λ y hy => ?_⟩
  ·have h5:S*((S:Rat)*x).den<=S*2^k:=Nat.mul_le_mul_left S (Nat.le_trans h3 hx.2)
   have h6:=zR (2^(l.length*k)) h5;rw[List.length_cons,Nat.succ_mul,Nat.pow_add,Nat.mul_comm (2^(l.length*k)),<-Nat.mul_assoc];exact Nat.le_trans p2 h6
  ·rcases List.mem_cons.1 hy with rfl|hy
   ·obtain ⟨t,rfl⟩:=p3
    refine ⟨u*(t:Int),?_⟩;rw[Rat.natCast_mul,Rat.natCast_mul,Rat.intCast_mul,<-h2,Rat.intCast_natCast];grind
   ·exact p4 y hy
theorem nE {k:Nat} {l:List Rat} (hb:Bs k l) : ∃ S:Nat,HH l=(S:Rat)/\0<S/\S<=2^(l.length*k) /\ ∀ x∈l,∃ z:Int,x*(S:Rat)=(z:Rat):=by
 obtain ⟨S,e,h1,h2,_,h3⟩:=Mx l 1 (by omega) hb;exact ⟨S,e,h1,by rwa [Nat.one_mul]at h2,h3⟩
theorem AeZ (S:Nat) (x:Rat):((S:Rat)/(x.den:Rat)).den=((S:Rat)*x).den:=by
 have nr:(x.den:Rat)≠0:=λ e=>by
  have:((x.den:Nat):Rat)=((0:Nat):Rat):=e
  have:=Rat.natCast_inj.1 this
  have:=x.den_pos
  omega
 have hx:=U4 x;refine Nat.dvd_antisymm ?_ ?_
 ·-- e=(S x).den: e S num/d whole,so d ∣ e S
  have h1:=U4 ((S:Rat)*x);generalize hE:((S:Rat)*x).den=E at *;generalize ((S:Rat)*x).num=u at h1;have h2:(((E*S:Nat):Int)*x.num:Int)=u*(x.den:Int):=by
   refine Rat.intCast_inj.1 ?_;rw[Rat.intCast_mul,Rat.intCast_mul,<-hx,<-h1,Rat.intCast_natCast,Rat.intCast_natCast,Rat.natCast_mul];grind
  have h3:x.den ∣ E*S*x.num.natAbs:=by
   have h4:(x.den:Int) ∣ ((E*S:Nat):Int)*x.num:=⟨u,by rw[h2,Int.mul_comm]⟩;have:=Int.natAbs_dvd_natAbs.2 h4
   rw[Int.natAbs_mul,Int.natAbs_natCast,Int.natAbs_natCast]at this;exact this
  obtain ⟨t,ht⟩:=Nat.Coprime.dvd_of_dvd_mul_right (Nat.Coprime.symm x.reduced) h3;refine iW (z:=t) ?_;have h5:((E*S:Nat):Rat)=((x.den*t:Nat):Rat):=congrArg _ ht;rw[Rat.natCast_mul,Rat.natCast_mul]at h5;rw[Rat.div_def,<-Rat.mul_assoc,h5,Rat.intCast_natCast];have:=Rat.mul_inv_cancel _ nr
  grind
 ·have h1:=U4 ((S:Rat)/(x.den:Rat))
  generalize ((S:Rat)/(x.den:Rat)).num=u at h1;generalize ((S:Rat)/(x.den:Rat)).den=E at *;refine iW (z:=u*x.num) ?_;rw[Rat.intCast_mul,<-h1,<-hx,Rat.div_def];have:=Rat.mul_inv_cancel _ nr
  grind
def C6 (a:List (List Rat)) (b:List Rat):Nat->List Rat
 | 0=>b
 | k+1=>DB a (C6 a b k)
theorem XJ {a:List (List Rat)} {b:List Rat} {n:Nat} (ha:a.length=n) (hb:b.length=n) : ∀ k,(C6 a b k).length=n
 | 0=>hb
 | k+1=>by rw[C6,WY,ha]
theorem oP (a:List (List Rat)) (b:List Rat) (k:Nat) : ∀ m,C6 a b (k+m)=C6 a (C6 a b k) m
 | 0=>rfl
 | m+1=>by rw[<-Nat.add_assoc,C6,oP a b k m];rfl
theorem nR {n:Nat} {a:List (List Rat)} (h:Sq n a) : ∀ (i:Nat) (v:List Rat),v.length=n->DB (B2 n a i) v=C6 a v (2^i)
 | 0,_,_=>rfl
 | i+1,v,hv=>by
  rw[B2,Ajf _ _ _ (TT h i).r,nR h i v hv,nR h i _ (XJ h.l hv _),<-oP,Nat.pow_succ,Nat.mul_two]
theorem AeB {a:List (List Rat)} (h:DJ a=true) : ∀ r∈a,BF r<=1/2:=λ r hr=>by
 have:=List.all_eq_true.1 h r hr
 simpa using this
theorem AeA {a:List (List Rat)}:DJ a=true ↔ ∀ r∈a,BF r<=1/2:=by
 rw[DJ,List.all_eq_true];exact ⟨λ h r hr=>by simpa using h r hr,λ h r hr=>by simpa using h r hr⟩
theorem fR {f g:Nat->Rat} : ∀ n,(∀ j,j<n->f j<=g j)->B4 f n<=B4 g n
 | 0,_=>Rat.le_refl
 | n+1,h=>by
  have h1:=fR n λ j hj=>h j (by omega)
  have h2:=h n (by omega);simp only[B4];exact QU h1 h2
theorem fS {f:Nat->Rat} (h : ∀ j,0<=f j) : ∀ n,0<=B4 f n
 | 0=>Rat.le_refl
 | n+1=>by
  have h1:=fS h n;have h2:=h n;simp only[B4];grind
theorem XC (f:Nat->Rat) (p:Nat) : ∀ m,B4 f (p+m)=B4 f p+B4 (λ j=>f (p+j)) m
 | 0=>by simp only[B4,Nat.add_zero];grind
 | m+1=>by
  rw[<-Nat.add_assoc,B4,XC f p m,B4];grind
theorem Qu {f:Nat->Rat} (h : ∀ j,0<=f j) (m d:Nat):B4 f m<=B4 f (m+d):=by
 rw[XC];have:=fS (f:=λ j=>f (m+j)) (λ j=>h _) d
 grind
theorem oC {f:Nat->Rat} {c:Rat} : ∀ n,B4 (λ j=>c*f j) n=c*B4 f n
 | 0=>by simp only[B4];grind
 | n+1=>by simp only[B4,oC n];grind
theorem AhU {g:Nat->Rat} {p:Nat} (h0 : ∀ j,0<=g j) (h : ∀ j,g (p+j)<=(1/2)*g j) (m:Nat):B4 g (p+m)<=2*B4 g p:=by
 have h1:B4 (λ j=>g (p+j)) m<=B4 (λ j=>(1/2)*g j) m:=fR m λ j _=>h j
 rw[oC]at h1;have h2:=XC g p m;have h3:B4 g m<=B4 g (p+m):=by rw[Nat.add_comm];exact Qu h0 m p
 grind
def GE (a:List (List Rat)) (b:List Rat) (k:Nat):Rat:=CG (C6 a b k)
def GV (a:List (List Rat)) (b c:List Rat) (k:Nat):Rat:=A4 (A3 c (C6 a b k))
def EP (S:FE) (p:Nat):Rat:=A4 S.d+(B4 (GV S.a S.b S.c) (p+p)+BF S.c*B4 (λ j=>GE S.a S.b (p+j)) p)
theorem Ahu (a:List (List Rat)) (b c:List Rat) (k:Nat):GV a b c k<=BF c*GE a b k:=jI c _ _ (WO _) λ_ hx=>wW hx
theorem AhD {n:Nat} {a:List (List Rat)} {b:List Rat} (ha:Sq n a) (hb:b.length=n) {i:Nat} (hc:DJ (B2 n a i)=true) (j:Nat):GE a b (2^i+j)<=(1/2)*GE a b j:=by
 rw[GE,GE,Nat.add_comm,oP,<-nR ha i _ (XJ ha.l hb j)];exact Aji (by grind) (AeB hc) _
theorem Aif {n:Nat} {S:FE} (ha:Sq n S.a) (hb:S.b.length=n) {i:Nat} (hc:DJ (B2 n S.a i)=true) (m:Nat):A4 S.d+B4 (GV S.a S.b S.c) m<=EP S (2^i):=by
 have hf : ∀ j,0<=GV S.a S.b S.c j:=λ j=>S5 _
 have hg : ∀ j,0<=GE S.a S.b j:=λ j=>WO _
 have hz:=eR S.c;have key:B4 (GV S.a S.b S.c) m<=B4 (GV S.a S.b S.c) (2^i+2^i)+BF S.c*B4 (λ j=>GE S.a S.b (2^i+j)) (2^i):=by
  generalize hp:2^i=p at *;have h1:B4 (GV S.a S.b S.c) m<=B4 (GV S.a S.b S.c) ((p+p)+m):=by
   rw[Nat.add_comm];exact Qu hf m (p+p)
  rw[XC _ (p+p) m]at h1;have h2:B4 (λ j=>GV S.a S.b S.c (p+p+j)) m<=B4 (λ j=>BF S.c*GE S.a S.b (p+(p+j))) m:=fR m λ j _=>by
   rw[<-Nat.add_assoc];exact Ahu _ _ _ _
  rw[oC (f:=λ j=>GE S.a S.b (p+(p+j)))]at h2;have h3:=AhU (g:=λ j=>GE S.a S.b (p+j)) (p:=p) (λ j=>hg _) (λ j=>by
   have:=AhD ha hb hc (p+j)
   rw[hp]at this;exact this) m
  rw[XC (λ j=>GE S.a S.b (p+j)) p m]at h3;have h4:B4 (λ j=>GE S.a S.b (p+(p+j))) m<=B4 (λ j=>GE S.a S.b (p+j)) p:=by grind
  have h5:=Rat.mul_le_mul_of_nonneg_left h4 hz;grind
 rw[EP];exact QU Rat.le_refl key
end Go.c6
