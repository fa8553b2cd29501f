/-
  Lattices (layer 25): building a net of at most two reflections.
-/
import Derived.Test.YtplhdlbnneoobaaGreatB11
import Derived.Test.YtplhdlbnneoobaaGreatB12
import Derived.Test.YtplhdlbnneoobaaGreatB2
import Derived.Test.YtplhdlbnneoobaaGreatB10
import Derived.Test.YtplhdlbnneoobaaGreatB8
set_option linter.unusedSimpArgs false
set_option linter.unusedVariables false
set_option linter.unnecessarySimpa false
namespace Go.c6
open F
attribute [local irreducible] AA AF AX AC CN AR BA A6 BV BH CM EI BO AY B0 CJ AB A5 AH pw CQ CE C8 EA DP BT CP BU C7
variable {L:Lib}
set_option maxHeartbeats 8000000
set_option maxRecDepth 8000
theorem Agy (I:c7 L) (N:z8 L) (k v:List Int) (q1 q2:Bool) (c:Wd) (hc:WV c) (l1:k.length<=8) (l2:v.length=k.length+1) (hv : ∀ x∈v,FT c x) (hk : ∀ x∈k,FT c x/\FT c (-x)) (hu : ∀ x∈k,-pw c.f<x/\x<pw c.f) :
  Ev L 345 [.sl q1 (k.map BW),.sl q2 (v.map BW),.agg (F3 c)] (.int .i64 0):=by
 have Ap : ∀ x∈k,-16777216<=x/\x<=16777216:=λ x hx=>by
  obtain ⟨_,e1,e2⟩:=(hk x hx).1;obtain ⟨h1,h2,h3,h4⟩:=MW hc;omega
 have s9:=hc;unfold WV at s9;have Gq:=K0 (n:=c.f) (m:=23) (by omega);have rn:pw 23=8388608:=by unfold pw;rfl
 have pj:=E0 c.f;refine Ev.x N.MS rfl rfl ?_;(repeat' ((first|(apply AG<;>intro hc<;>try omega)|(apply AQ;omega)|apply AP|apply AE|refine EE (Q6 ⟨_,_,_,_⟩ I) (λ hf => ?_) (λ hf => ?_))<;>conv=>whnf))
 all_goals try (exact absurd hc (by assumption))
 refine D4 (λ i=>v.length-i) (λ(i:Nat)=>i<=v.length) (λ i=>[(29,.int .i64 i)]) (λ_=>[]) 0 (by omega) ?_;intro i p1 ih;(repeat' ((first|(apply AG<;>intro hc<;>try omega)|(apply AQ;omega)|apply AP|(refine IJ ?_ (λ_=>rfl) (λ e he => ?_);omega)|apply AE|refine EE (Q5 ⟨_,_,_,_⟩ I _) (λ hf => ?_) (λ hf => ?_))<;>conv=>whnf))
 ·exact BB [] (ih (i+1) (by omega) (by omega))
 ·exact absurd (hv _ (zM he)) hf
 refine D4 (λ i=>k.length-i) (λ(i:Nat)=>i<=k.length) (λ i=>[(40,.int .i64 i)]) (λ_=>[]) 0 (by omega) ?_;intro i p1 ih;(repeat' ((first|(apply AG<;>intro hc<;>try omega)|apply AP|(refine IJ ?_ (λ_=>rfl) (λ e he => ?_);omega)|apply AE|refine EE (Q5 ⟨_,_,_,_⟩ I _) (λ hf => ?_) (λ hf => ?_))<;>conv=>whnf))
 ·have Tn:=Ap _ (zM he)
  (repeat' ((first|(apply AQ;omega)|(apply CN.neg;omega)|refine EE (Q5 ⟨_,_,_,_⟩ I _) (λ hf => ?_) (λ hf => ?_))<;>conv=>whnf))
  ·exact BB [] (ih (i+1) (by omega) (by omega))
  ·exact absurd (hk _ (zM he)).2 hf
 ·exact absurd (hk _ (zM he)).1 hf
 refine D4 (λ i=>k.length-i) (λ(i:Nat)=>i<=k.length) (λ i=>[(58,.int .i64 i)]) (λ_=>[]) 0 (by omega) ?_;intro i p1 ih;by_cases hi:i<k.length
 ·obtain ⟨x,hx⟩ : ∃ x,k[i]? = some x:=⟨_,zE hi⟩
  have lf:k[(i:Int).toNat]? = some x:=hx;have Tn:=Ap _ (zM hx);have hue:=hu _ (zM hx);(repeat' ((first|(apply AG<;>intro hc<;>try omega)|(apply AQ;omega)|(refine FX ?_ (λ_ _ => ?_);omega)|(apply CN.neg;omega)|(refine A9 (by assumption) ?_ rfl ?_;omega)|apply AE)<;>conv=>whnf))
  all_goals exact BB [] (ih (i+1) (by omega) (by omega))
 ·(repeat' ((first|(apply AG<;>intro hc<;>try omega)|apply AE)<;>conv=>whnf))
  exact B5 rfl
def FH (k v:List Int) (d c:Wd):Nt :=
 ⟨d,c,(k.length:Int),false,match k with
  | [x]=>[⟨false,[(0,pw c.f),(1,-x)]⟩,⟨false,[(2,x),(1,pw c.f)]⟩,⟨false,[(2,v.getD 0 0),(3,v.getD 1 0)]⟩]
  | [x,y]=>[⟨false,[(0,pw c.f),(2,-y)]⟩,⟨false,[(3,pw c.f),(1,-x)]⟩,⟨false,[(4,x),(1,pw c.f)]⟩,⟨false,[(3,y),(2,pw c.f)]⟩,⟨false,[(4,v.getD 0 0),(5,v.getD 1 0),(6,v.getD 2 0)]⟩]
  | _=>[⟨false,[(0,v.getD 0 0)]⟩],false,match k with
  | [_]=>[2]
  | [_,_]=>[4,5]
  | _=>[],3*(k.length:Int)+1⟩
theorem Agx (I:c7 L) (N:z8 L) (k v:List Int) (q1 q2:Bool) (d c:Wd) (hd:WV d) (hc:WV c) (l1:k.length<=2) (l2:v.length=k.length+1) (hv : ∀ x∈v,FT c x) (hk : ∀ x∈k,FT c x/\FT c (-x)) (hu : ∀ x∈k,-pw c.f<x/\x<pw c.f) :
  Ev L 346 [.sl q1 (k.map BW),.sl q2 (v.map BW),.agg (F3 d),.agg (F3 c)] (.g8 [.agg (CO (FH k v d c)),.int .i64 0]):=by
 have hw:=λ q q'=>Agy I N k v q q' c hc (by omega) l2 hv hk hu
 have s9:=hc;unfold WV at s9;have Gq:=K0 (n:=c.f) (m:=23) (by omega);have rn:pw 23=8388608:=by unfold pw;rfl
 have pj:=E0 c.f;have Ap : ∀ x∈k,-16777216<=x/\x<=16777216:=λ x hx=>by
  obtain ⟨_,e1,e2⟩:=(hk x hx).1;obtain ⟨h1,h2,h3,h4⟩:=MW hc;omega
 refine Ev.x N.MR rfl rfl ?_;rcases k with _|⟨x,_|⟨y,_|⟨z,k⟩⟩⟩
 ·rcases v with _|⟨a,_|⟨b,v⟩⟩
  ·simp at l2
  ·simp only[List.map_cons,List.map_nil]at hw ⊢
   (repeat' ((first|(apply AG<;>intro hc<;>try omega)|apply AE|refine EE (Q6 ⟨_,_,_,_⟩ I) (λ hf => ?_) (λ hf => ?_)|refine AD (hw _ _) ?_)<;>conv=>whnf))
   all_goals try (exact absurd hd (by assumption))
   refine gM 0 rfl ?_;(conv=>whnf)
   (repeat' ((first|(refine FX ?_ (λ_ _ => ?_);omega)|fail)<;>conv=>whnf))
   refine D9 (enc:=BW) 0 0 rfl (by omega) (by omega) ?_;(conv=>whnf)
   (repeat' ((first|(apply AQ;omega)|(apply FW;omega))<;>conv=>whnf))
   refine D9 (enc:=BW) 0 1 rfl (by omega) (by omega) ?_;(conv=>whnf)
   skip
   refine GJ ?_;(repeat' ((first|(apply AG<;>intro hc<;>try omega)|(apply AQ;omega)|apply AE)<;>conv=>whnf))
   refine D9 (enc:=BW) 0 1 rfl (by omega) (by omega) ?_;(conv=>whnf)
   (repeat' ((first|(apply A2;omega)|fail)<;>conv=>whnf))
   repeat (
    (repeat' ((first|(apply AG<;>intro hc<;>try omega)|(apply A2;omega)|apply AE)<;>conv=>whnf))
    (first|refine LX rfl rfl ?_|refine S4 rfl rfl ?_|refine GM 0 (by omega) rfl rfl ?_|refine GM 1 (by omega) rfl rfl ?_|refine GM 2 (by omega) rfl rfl ?_|refine E1 2 rfl rfl rfl rfl ?_|refine E1 3 rfl rfl rfl rfl ?_|refine E1 4 rfl rfl rfl rfl ?_|refine E1 5 rfl rfl rfl rfl ?_|refine I1 2 rfl rfl rfl rfl rfl ?_|refine I1 3 rfl rfl rfl rfl rfl ?_|refine A2 rfl ?_|refine A2 ⟨rfl,by decide⟩ ?_|refine S3 rfl rfl ?_|refine GJ ?_)
    (conv=>whnf))
   skip
   refine QQ (z:=2) (en:=IC) (ll:=[[(0,a)]]) (λ_=>rfl) rfl rfl ?_;(conv=>whnf)
   repeat (
    (repeat' ((refine CZ (λ_=>rfl) rfl ?_ ?_;(first|rfl|simp))<;>conv=>whnf))
    (first|refine LX rfl rfl ?_|refine S4 rfl rfl ?_|refine GM 0 (by omega) rfl rfl ?_|refine GM 1 (by omega) rfl rfl ?_|refine GM 2 (by omega) rfl rfl ?_|refine E1 2 rfl rfl rfl rfl ?_|refine E1 3 rfl rfl rfl rfl ?_|refine E1 4 rfl rfl rfl rfl ?_|refine E1 5 rfl rfl rfl rfl ?_|refine I1 2 rfl rfl rfl rfl rfl ?_|refine I1 3 rfl rfl rfl rfl rfl ?_|refine A2 rfl ?_|refine A2 ⟨rfl,by decide⟩ ?_|refine S3 rfl rfl ?_|refine GJ ?_)
    (conv=>whnf))
   (repeat' ((refine CZ (λ_=>rfl) rfl ?_ ?_;(first|rfl|simp))<;>conv=>whnf))
   exact AW rfl (WZ (FH [] [a] d c) rfl rfl (by simp [FH]))
  ·simp at l2
 ·rcases v with _|⟨a,_|⟨b,_|⟨e,v⟩⟩⟩
  ·simp at l2
  ·simp at l2
  ·have hx:=Ap x (by simp)
   simp only[List.map_cons,List.map_nil]at hw ⊢;(repeat' ((first|(apply AG<;>intro hc<;>try omega)|apply AE|refine EE (Q6 ⟨_,_,_,_⟩ I) (λ hf => ?_) (λ hf => ?_)|refine AD (hw _ _) ?_)<;>conv=>whnf))
   all_goals try (exact absurd hd (by assumption))
   refine gM 1 rfl ?_;(conv=>whnf)
   (repeat' ((first|(refine FX ?_ (λ_ _ => ?_);omega)|fail)<;>conv=>whnf))
   refine D9 (enc:=BW) 0 1 rfl (by omega) (by omega) ?_;(conv=>whnf)
   (repeat' ((first|(apply AQ;omega)|(apply FW;omega))<;>conv=>whnf))
   refine D9 (enc:=BW) 0 2 rfl (by omega) (by omega) ?_;(conv=>whnf)
   skip
   repeat (
    (repeat' ((first|(apply AG<;>intro hc<;>try omega)|(apply A2;omega)|(apply AQ;omega)|(apply BL;omega)|(apply CN.neg;omega)|apply AE)<;>conv=>whnf))
    (first|refine LX rfl rfl ?_|refine S4 rfl rfl ?_|refine GM 0 (by omega) rfl rfl ?_|refine GM 1 (by omega) rfl rfl ?_|refine GM 2 (by omega) rfl rfl ?_|refine E1 2 rfl rfl rfl rfl ?_|refine E1 3 rfl rfl rfl rfl ?_|refine E1 4 rfl rfl rfl rfl ?_|refine E1 5 rfl rfl rfl rfl ?_|refine I1 2 rfl rfl rfl rfl rfl ?_|refine I1 3 rfl rfl rfl rfl rfl ?_|refine A2 rfl ?_|refine A2 ⟨rfl,by decide⟩ ?_|refine S3 rfl rfl ?_|refine GJ ?_)
    (conv=>whnf))
   (repeat' ((first|(apply AG<;>intro hc<;>try omega)|(apply AQ;omega)|apply AE)<;>conv=>whnf))
   refine D9 (enc:=BW) 0 2 rfl (by omega) (by omega) ?_;(conv=>whnf)
   repeat (
    (repeat' ((first|(apply AG<;>intro hc<;>try omega)|(apply A2;omega)|(apply AQ;omega)|(apply BL;omega)|(apply FW;omega)|apply DQ|apply AE)<;>conv=>whnf))
    (first|refine LX rfl rfl ?_|refine S4 rfl rfl ?_|refine GM 0 (by omega) rfl rfl ?_|refine GM 1 (by omega) rfl rfl ?_|refine GM 2 (by omega) rfl rfl ?_|refine E1 2 rfl rfl rfl rfl ?_|refine E1 3 rfl rfl rfl rfl ?_|refine E1 4 rfl rfl rfl rfl ?_|refine E1 5 rfl rfl rfl rfl ?_|refine I1 2 rfl rfl rfl rfl rfl ?_|refine I1 3 rfl rfl rfl rfl rfl ?_|refine A2 rfl ?_|refine A2 ⟨rfl,by decide⟩ ?_|refine S3 rfl rfl ?_|refine GJ ?_)
    (conv=>whnf))
   skip
   refine QQ (z:=2) (en:=IC) (ll:=[[(0,pw c.f),(1,-x)],[(2,x),(1,pw c.f)],[(2,a),(3,b)]]) (λ_=>rfl) rfl rfl ?_;(conv=>whnf)
   repeat (
    (repeat' (refine GA rfl ?_<;>conv=>whnf))
    (first|refine LX rfl rfl ?_|refine S4 rfl rfl ?_|refine GM 0 (by omega) rfl rfl ?_|refine GM 1 (by omega) rfl rfl ?_|refine GM 2 (by omega) rfl rfl ?_|refine E1 2 rfl rfl rfl rfl ?_|refine E1 3 rfl rfl rfl rfl ?_|refine E1 4 rfl rfl rfl rfl ?_|refine E1 5 rfl rfl rfl rfl ?_|refine I1 2 rfl rfl rfl rfl rfl ?_|refine I1 3 rfl rfl rfl rfl rfl ?_|refine A2 rfl ?_|refine A2 ⟨rfl,by decide⟩ ?_|refine S3 rfl rfl ?_|refine GJ ?_)
    (conv=>whnf))
   (repeat' (refine GA rfl ?_<;>conv=>whnf))
   exact AW rfl (WZ (FH [x] [a,b] d c) rfl rfl (by simp [FH]))
  ·simp at l2
 ·rcases v with _|⟨a,_|⟨b,_|⟨e,_|⟨g,v⟩⟩⟩⟩
  ·simp at l2
  ·simp at l2
  ·simp at l2
  ·have hx:=Ap x (by simp)
   have hy:=Ap y (by simp);simp only[List.map_cons,List.map_nil]at hw ⊢;(repeat' ((first|(apply AG<;>intro hc<;>try omega)|apply AE|refine EE (Q6 ⟨_,_,_,_⟩ I) (λ hf => ?_) (λ hf => ?_)|refine AD (hw _ _) ?_)<;>conv=>whnf))
   all_goals try (exact absurd hd (by assumption))
   refine gM 2 rfl ?_;(conv=>whnf)
   (repeat' ((first|(refine FX ?_ (λ_ _ => ?_);omega)|fail)<;>conv=>whnf))
   refine D9 (enc:=BW) 0 2 rfl (by omega) (by omega) ?_;(conv=>whnf)
   (repeat' ((first|(apply AQ;omega)|(apply FW;omega))<;>conv=>whnf))
   refine D9 (enc:=BW) 0 3 rfl (by omega) (by omega) ?_;(conv=>whnf)
   skip
   repeat (
    (repeat' ((first|(apply AG<;>intro hc<;>try omega)|(apply A2;omega)|(apply AQ;omega)|(apply BL;omega)|(apply CN.neg;omega)|apply AE)<;>conv=>whnf))
    (first|refine LX rfl rfl ?_|refine S4 rfl rfl ?_|refine GM 0 (by omega) rfl rfl ?_|refine GM 1 (by omega) rfl rfl ?_|refine GM 2 (by omega) rfl rfl ?_|refine E1 2 rfl rfl rfl rfl ?_|refine E1 3 rfl rfl rfl rfl ?_|refine E1 4 rfl rfl rfl rfl ?_|refine E1 5 rfl rfl rfl rfl ?_|refine I1 2 rfl rfl rfl rfl rfl ?_|refine I1 3 rfl rfl rfl rfl rfl ?_|refine A2 rfl ?_|refine A2 ⟨rfl,by decide⟩ ?_|refine S3 rfl rfl ?_|refine GJ ?_)
    (conv=>whnf))
   (repeat' ((first|(apply AG<;>intro hc<;>try omega)|(apply AQ;omega)|apply AE)<;>conv=>whnf))
   refine D9 (enc:=BW) 0 3 rfl (by omega) (by omega) ?_;(conv=>whnf)
   repeat (
    (repeat' ((first|(apply AG<;>intro hc<;>try omega)|(apply A2;omega)|(apply AQ;omega)|(apply BL;omega)|(apply FW;omega)|apply DQ|apply AE)<;>conv=>whnf))
    (first|refine LX rfl rfl ?_|refine S4 rfl rfl ?_|refine GM 0 (by omega) rfl rfl ?_|refine GM 1 (by omega) rfl rfl ?_|refine GM 2 (by omega) rfl rfl ?_|refine E1 2 rfl rfl rfl rfl ?_|refine E1 3 rfl rfl rfl rfl ?_|refine E1 4 rfl rfl rfl rfl ?_|refine E1 5 rfl rfl rfl rfl ?_|refine I1 2 rfl rfl rfl rfl rfl ?_|refine I1 3 rfl rfl rfl rfl rfl ?_|refine A2 rfl ?_|refine A2 ⟨rfl,by decide⟩ ?_|refine S3 rfl rfl ?_|refine GJ ?_)
    (conv=>whnf))
   skip
   refine Zr (z:=2) (en:=IC) [[(0,pw c.f),(2,-y)],[(3,pw c.f),(1,-x)],[(4,x),(1,pw c.f)],[(3,y),(2,pw c.f)],[(4,a),(5,b),(6,e)]] (by simp [EL]) (λ_=>rfl) rfl rfl ?_;(conv=>whnf)
   repeat (
    (repeat' (refine J9 rfl rfl ?_<;>conv=>whnf))
    (first|refine LX rfl rfl ?_|refine S4 rfl rfl ?_|refine GM 0 (by omega) rfl rfl ?_|refine GM 1 (by omega) rfl rfl ?_|refine GM 2 (by omega) rfl rfl ?_|refine E1 2 rfl rfl rfl rfl ?_|refine E1 3 rfl rfl rfl rfl ?_|refine E1 4 rfl rfl rfl rfl ?_|refine E1 5 rfl rfl rfl rfl ?_|refine I1 2 rfl rfl rfl rfl rfl ?_|refine I1 3 rfl rfl rfl rfl rfl ?_|refine A2 rfl ?_|refine A2 ⟨rfl,by decide⟩ ?_|refine S3 rfl rfl ?_|refine GJ ?_)
    (conv=>whnf))
   (repeat' (refine J9 rfl rfl ?_<;>conv=>whnf))
   exact AW rfl (WZ (FH [x,y] [a,b,e] d c) rfl rfl (by simp [FH]))
  ·simp at l2
 ·simp at l1
end Go.c6
namespace Go.c6
open F
attribute [local irreducible] AA AF AX AC CN AR BA A6 BV BH CM EI BO AY B0 CJ AB A5 AH pw CQ CE C8 EA DP BT CP BU C7
variable {L:Lib} {b a:List Int} {d c:Wd}
set_option maxHeartbeats 16000000
theorem Ou (x fr:Int):EG [x] 1 fr=[(fr,x)]:=by simp [EG]
def tK (b a:List Int) (c:Wd) (mx k:Nat):List (Int × Int):=(if k<b.length then [(0,b.getD k 0)] else [])++(if 1<=k/\k<=a.length then [((1:Int)+mx,-a.getD (k-1) 0)] else [])++(if k<mx then [((k:Int)+1,pw c.f)] else [])
theorem Akb (x fr:Int):EG [x] (-1) fr=[(fr,-x)]:=by simp [EG]
theorem Rk {l:List Int} {k:Nat} (h:k<l.length):(l.take (k+1)).drop k=[l.getD k 0]:=by
 have hg:l[k]? = some l[k]:=zE h;rw[List.take_add_one,hg,Option.toList_some,List.drop_append_of_le_length (by rw[List.length_take];omega),List.drop_of_length_le (by rw[List.length_take];omega),List.nil_append,List.getD_eq_getElem?_getD,hg];rfl
theorem oL (b a:List Int) (c:Wd) (mx k:Nat):RO b a c mx k=tK b a c mx k:=by
 unfold RO tK;congr 1
 ·congr 1
  ·by_cases h:k<b.length
   ·rw[if_pos h,if_pos h,Rk h,Ou]
   ·rw[if_neg h,if_neg h]
  ·by_cases h:1<=k/\k<=a.length
   ·rw[if_pos h,if_pos h]
    obtain ⟨j,rfl⟩ : ∃ j,k=j+1:=⟨k-1,by omega⟩;rw[Nat.add_sub_cancel,Rk (by omega),Akb,Int.add_comm 1 (mx:Int)]
   ·rw[if_neg h,if_neg h]
 ·by_cases h:k<mx
  ·rw[if_pos h,if_pos h,Ou]
  ·rw[if_neg h,if_neg h]
end Go.c6

namespace Go.c6
open F
attribute [local irreducible] AA AF AX AC CN AR BA A6 BV BH CM EI BO AY B0 CJ AB A5 AH pw CQ CE C8 EA DP BT CP BU C7
variable {L:Lib} {d c:Wd} {p:List Int}
set_option maxHeartbeats 1000000
theorem Alj {s:Int} {k:Nat} {fr:Int} (h:0<=fr/\fr<=s+k) : ∀ t∈EG [pw c.f] 1 fr,FQ c s k t=true:=by
 intro t ht;obtain ⟨i,v,hv,hi,rfl⟩:=U1 ht;simp only[List.mem_singleton]at hv;simp only[List.length_cons,List.length_nil]at hi;subst hv;exact decide_eq_true ⟨by simp only;omega,by simp only;omega,Or.inl (by simp)⟩
theorem Pk {s:Int} {k:Nat} {fr:Int} {l:List Int} (hl : ∀ v∈l,FT c v) (h:0<=fr/\fr+l.length<=s+k+1) : ∀ t∈EG l 1 fr,FQ c s k t=true:=by
 intro t ht;obtain ⟨i,v,hv,hi,rfl⟩:=U1 ht;exact decide_eq_true ⟨by simp only;omega,by simp only;omega,Or.inr (by simpa using hl v hv)⟩
theorem zO {s:Int} {f:Nat->Nd} : ∀ (m k:Nat),(∀ i,k<=i->i<k+m->(f i).ts.length<=64 /\ ∀ t∈(f i).ts,FQ c s i t=true)->GF c s k ((List.range' k m).map f)=true
 | 0,_,_=>rfl
 | m+1,k,h=>by
  rw[List.range'_succ,List.map_cons,GF,zO m (k+1) λ i h1 h2=>h i (by omega) (by omega)];have:=h k (by omega) (by omega)
  simp only[Bool.and_true,Bool.and_eq_true,decide_eq_true_eq,List.all_eq_true];exact this
end Go.c6

namespace Go.c6
open F
attribute [local irreducible] AA AF AX AC CN AR BA A6 BV BH CM EI BO AY B0 CJ AB A5 AH pw CQ CE C8 EA DP BT CP BU C7
set_option maxHeartbeats 8000000
variable {L:Lib}
section
variable {b a:List Int} {d c:Wd}
theorem Ali {s:Int} {k:Nat} {fr:Int} {l:List Int} (hl : ∀ v∈l,FT c (-v)) (h:0<=fr/\fr+l.length<=s+k+1) : ∀ t∈EG l (-1) fr,FQ c s k t=true:=by
 intro t ht;obtain ⟨i,v,hv,hi,rfl⟩:=U1 ht;exact decide_eq_true ⟨by simp only;omega,by simp only;omega,Or.inr (by simpa using hl v hv)⟩
theorem Alq (hd:WV d) (hc:WV c) (l1:1<=b.length/\b.length<=49) (l2:a.length<=8) (hb : ∀ v∈b,FT c v) (ha : ∀ v∈a,FT c v/\FT c (-v)):DZ (GX b a d c)=true:=by
 have eu:b.length-1<=CH b a:=Nat.le_max_left _ _;have bh:a.length<=CH b a:=Nat.le_max_right _ _;have hm3:CH b a<=48:=by unfold CH;omega
 rw[C5];refine ⟨hd,hc,⟨by simp only[GX];omega,by simp only[GX];omega,by simp [GX],by simp [GX,H8]⟩,?_,?_,by simp only[GX];omega,by simp only[GX,List.length_cons,List.length_nil];omega⟩
 ·simp only[GX,GF,Bool.and_true,Bool.and_eq_true,decide_eq_true_eq,List.all_eq_true]
  refine ⟨⟨by simp [K9];omega,λ t ht => ?_⟩,by simp [K9];omega,λ t ht => ?_⟩
  ·rcases List.mem_append.1 ht with h|h
   ·exact Alj (by omega) t h
   ·exact Ali (λ v hv=>(ha v hv).2) (by omega) t h
  ·rcases List.mem_append.1 ht with h|h
   ·exact Pk (λ v hv=>hb v (List.mem_of_mem_take hv)) (by simp only[List.length_take];omega) t h
   ·exact Pk (λ v hv=>hb v (List.mem_of_mem_drop hv)) (by simp only[List.length_drop];omega) t h
 ·simp only[GX,IU,List.all_eq_true,decide_eq_true_eq,List.length_cons,List.length_nil]
  intro k hk;rcases yW hk with rfl|⟨i,h1,h2,rfl⟩<;>(first|omega|(refine decide_eq_true ?_;omega))
theorem Rj {mx k:Nat} {t:Int × Int} (h:t∈tK b a c mx k):(k<b.length/\t.1=0/\t.2∈b)\/(1<=k/\k<=a.length/\t.1=1+(mx:Int) /\ -t.2∈a)\/(k<mx/\t.1=(k:Int)+1/\t.2=pw c.f):=by
 unfold tK at h;rcases List.mem_append.1 h with h|h
 ·rcases List.mem_append.1 h with h|h
  ·split at h
   ·rename_i hk
    obtain rfl:=List.mem_singleton.1 h;refine Or.inl ⟨hk,rfl,?_⟩;show b.getD k 0∈b;rw[List.getD_eq_getElem?_getD,zE hk];exact List.getElem_mem hk
   ·cases h
  ·split at h
   ·rename_i hk
    obtain rfl:=List.mem_singleton.1 h;refine Or.inr (Or.inl ⟨hk.1,hk.2,rfl,?_⟩);show - -(a.getD (k-1) 0)∈a;rw[Int.neg_neg,List.getD_eq_getElem?_getD,zE (show k-1<a.length by omega)];exact List.getElem_mem _
   ·cases h
 ·split at h
  ·rename_i hk
   obtain rfl:=List.mem_singleton.1 h;exact Or.inr (Or.inr ⟨hk,rfl,rfl⟩)
  ·cases h
theorem oF (mx k:Nat):(tK b a c mx k).length<=3:=by
 unfold tK;split<;>split<;>split<;>simp
theorem Aln (hd:WV d) (hc:WV c) (l1:1<=b.length/\b.length<=49) (l2:a.length<=8) (hb : ∀ v∈b,FT c v) (ha : ∀ v∈a,FT c v/\FT c (-v)):DZ (G2 b a d c)=true:=by
 have eu:b.length-1<=CH b a:=Nat.le_max_left _ _;have bh:a.length<=CH b a:=Nat.le_max_right _ _;have hm3:CH b a<=48:=by unfold CH;omega
 rw[C5];refine ⟨hd,hc,⟨by simp only[G2];omega,by simp only[G2];omega,by simp [G2,JE];omega,by simp [G2]⟩,?_,?_,by simp only[G2];omega,by simp [G2,JE];omega⟩
 ·simp only[G2,JE]
  rw[Aj2];refine zO _ _ λ i _ hi => ?_
  simp only[oL];refine ⟨by have:=oF (b:=b) (a:=a) (c:=c) (CH b a) i;omega,λ t ht => ?_⟩;refine decide_eq_true ?_;rcases Rj ht with ⟨h1,h2,h3⟩|⟨h1,h2,h3,h4⟩|⟨h1,h2,h3⟩
  ·exact ⟨by omega,by omega,Or.inr (hb _ h3)⟩
  ·exact ⟨by omega,by omega,Or.inr (by simpa using (ha _ h4).2)⟩
  ·exact ⟨by omega,by omega,Or.inl h3⟩
 ·simp only[G2,JE,IU,List.all_eq_true,decide_eq_true_eq,List.mem_map,List.mem_range,List.length_map,List.length_range]
  rintro k ⟨i,hi,rfl⟩
  omega
theorem mS (hc:WV c):(pw c.f).natAbs<=2^24:=by
 unfold WV at hc;have Gq:=K0 (n:=c.f) (m:=23) (by omega);have rn:pw 23=8388608:=by unfold pw;rfl
 have:=E0 c.f
 show _<=16777216;omega
theorem ZT {l:List Int} {sg fr:Int} (hs:sg=1\/sg = -1) (hl : ∀ v∈l,FT c v) : ∀ t∈EG l sg fr,t.2.natAbs<=2^24:=by
 intro t ht;obtain ⟨i,v,hv,hi,rfl⟩:=U1 ht;have:=VW (hl v hv)
 show (sg*v).natAbs<=16777216;rcases hs with rfl|rfl<;>omega
theorem Alx (hc:WV c) {fr:Int} : ∀ t∈EG [pw c.f] 1 fr,t.2.natAbs<=2^24:=by
 intro t ht;obtain ⟨i,v,hv,hi,rfl⟩:=U1 ht;obtain rfl:=List.mem_singleton.1 hv;show (1*pw c.f).natAbs<=_;rw[Int.one_mul];exact mS hc
theorem Ajx (l1:b.length<=3) (l2:a.length<=2) (hb : ∀ v∈b,FT c v) (ha : ∀ v∈a,FT c v/\FT c (-v)):RY (BP (GW b a d c)):=by
 constructor
 ·intro ts h
  simp only[BP,GW,List.map_cons,List.map_nil,List.mem_singleton]at h;subst h;simp only[List.length_append,K9];omega
 ·intro ts h
  simp only[BP,GW,List.map_cons,List.map_nil,List.mem_singleton]at h;subst h;intro t ht;rcases List.mem_append.1 ht with h|h
  ·exact ZT (Or.inl rfl) hb t h
  ·exact ZT (Or.inr rfl) (λ v hv=>(ha v hv).1) t h
theorem Alr (hc:WV c) (l1:b.length<=3) (l2:a.length<=2) (hb : ∀ v∈b,FT c v) (ha : ∀ v∈a,FT c v/\FT c (-v)):RY (BP (GX b a d c)):=by
 constructor
 ·intro ts h
  simp only[BP,GX,List.map_cons,List.map_nil,List.mem_cons,List.not_mem_nil,or_false]at h;rcases h with rfl|rfl
  all_goals simp only[List.length_append,K9,List.length_take,List.length_drop,List.length_cons,List.length_nil];omega
 ·intro ts h
  simp only[BP,GX,List.map_cons,List.map_nil,List.mem_cons,List.not_mem_nil,or_false]at h;intro t ht;rcases h with rfl|rfl
  ·rcases List.mem_append.1 ht with h|h
   ·exact Alx hc t h
   ·exact ZT (Or.inr rfl) (λ v hv=>(ha v hv).1) t h
  ·rcases List.mem_append.1 ht with h|h
   ·exact ZT (Or.inl rfl) (λ v hv=>hb v (List.mem_of_mem_take hv)) t h
   ·exact ZT (Or.inl rfl) (λ v hv=>hb v (List.mem_of_mem_drop hv)) t h
theorem Alo (hc:WV c) (hb : ∀ v∈b,FT c v) (ha : ∀ v∈a,FT c v/\FT c (-v)):RY (BP (G2 b a d c)):=by
 have key : ∀ ts∈BP (G2 b a d c),∃ i,ts=tK b a c (CH b a) i:=by
  intro ts h;simp only[BP,G2,JE,List.map_map,List.mem_map]at h;obtain ⟨i,_,rfl⟩:=h;exact ⟨i,oL _ _ _ _ _⟩
 constructor
 ·intro ts h
  obtain ⟨i,rfl⟩:=key ts h;have:=oF (b:=b) (a:=a) (c:=c) (CH b a) i
  omega
 ·intro ts h t ht
  obtain ⟨i,rfl⟩:=key ts h;rcases Rj ht with ⟨h1,h2,h3⟩|⟨h1,h2,h3,h4⟩|⟨h1,h2,h3⟩
  ·have:=VW (hb _ h3)
   show _<=16777216;omega
  ·have:=VW (ha _ h4).1
   show _<=16777216;omega
  ·rw[h3];exact mS hc
end
end Go.c6

namespace Go.c6
open F
attribute [local irreducible] AA AF AX AC CN AR BA A6 BV BH CM EI BO AY B0 CJ AB A5 AH pw CQ CE C8 EA DP BT CP BU C7
set_option maxHeartbeats 8000000
set_option maxRecDepth 8000
variable {L:Lib}
structure CT (n:Nt):Prop where
 aw:DZ n=true
 st:n.s<=4
 nl:n.nodes.length<=5
 cf : ∀ d∈n.nodes,∀ t∈d.ts,t.2.natAbs<=2^24
 tl:(∀ d∈n.nodes,d.ts.length<=3)\/(n.nodes.length<=1 /\ ∀ d∈n.nodes,d.ts.length<=5)
theorem dB {n:Nt} {d:Nd} (h:d∈n.nodes):d.ts∈BP n:=List.mem_map.2 ⟨d,h,rfl⟩
section
variable {b a:List Int} {d c:Wd}
theorem AjE (hd:WV d) (hc:WV c) (l1:1<=b.length/\b.length<=3) (l2:a.length<=2) (hb : ∀ v∈b,FT c v) (ha : ∀ v∈a,FT c v/\FT c (-v)):CT (GW b a d c):=by
 have hs:=Ajx (d:=d) (by omega) l2 hb ha;refine ⟨Ahw hd hc (by omega) (by omega) hb ha,by simp only[GW];omega,by simp [GW],λ x hx=>hs.cf _ (dB hx),Or.inr ⟨by simp [GW],λ x hx=>hs.len _ (dB hx)⟩⟩
theorem AjH (hd:WV d) (hc:WV c) (l1:1<=b.length/\b.length<=3) (l2:a.length<=2) (hb : ∀ v∈b,FT c v) (ha : ∀ v∈a,FT c v/\FT c (-v)):CT (GX b a d c):=by
 have hs:=Alr (d:=d) hc (by omega) l2 hb ha;have hm:CH b a<=2:=by unfold CH;omega
 refine ⟨Alq hd hc (by omega) (by omega) hb ha,by simp only[GX];omega,by simp [GX],λ x hx=>hs.cf _ (dB hx),Or.inl λ x hx => ?_⟩;simp only[GX,List.mem_cons,List.not_mem_nil,or_false]at hx;rcases hx with rfl|rfl
 all_goals simp only[List.length_append,K9,List.length_take,List.length_drop,List.length_cons,List.length_nil];omega
theorem AjG (hd:WV d) (hc:WV c) (l1:1<=b.length/\b.length<=3) (l2:a.length<=2) (hb : ∀ v∈b,FT c v) (ha : ∀ v∈a,FT c v/\FT c (-v)):CT (G2 b a d c):=by
 have hs:=Alo (d:=d) hc hb ha;have hm:CH b a<=2:=by unfold CH;omega
 refine ⟨Aln hd hc (by omega) (by omega) hb ha,by simp only[G2];omega,by simp [G2,JE];omega,λ x hx=>hs.cf _ (dB hx),Or.inl λ x hx => ?_⟩;simp only[G2,JE,List.mem_map]at hx;obtain ⟨i,_,rfl⟩:=hx;simp only[oL];exact oF _ _
theorem AjD {k v:List Int} (hd:WV d) (hc:WV c) (l1:k.length<=2) (l2:v.length=k.length+1) (hv : ∀ x∈v,FT c x) (hk : ∀ x∈k,FT c x/\FT c (-x)):CT (FH k v d c):=by
 have hp:=mS hc;have sm : ∀ x,FT c x->x.natAbs<=16777216:=λ x hx=>by have:=VW hx;omega
 have Km:(pw c.f).natAbs<=16777216:=hp;rcases k with _|⟨x,_|⟨y,_|⟨z,k⟩⟩⟩
 ·rcases v with _|⟨a,_|⟨b,v⟩⟩
  ·simp at l2
  ·have h1:=hv a (by simp)
   have s1:=sm a h1;refine ⟨?_,by simp [FH],by simp [FH],?_,Or.inl ?_⟩
   ·simp [DZ,FH,GF,IU,FQ,hd,hc,h1]
   ·simp [FH];exact s1
   ·simp [FH]
  ·simp at l2
 ·rcases v with _|⟨a,_|⟨b,_|⟨e,v⟩⟩⟩
  ·simp at l2
  ·simp at l2
  ·have h1:=hv a (by simp)
   have h2:=hv b (by simp);obtain ⟨h3,h4⟩:=hk x (by simp);have s1:=sm a h1;have s2:=sm b h2;have s3:=sm x h3;refine ⟨?_,by simp [FH],by simp [FH],?_,Or.inl ?_⟩
   ·simp [DZ,FH,GF,IU,FQ,hd,hc,h1,h2,h3,h4]
   ·simp [FH]
    refine ⟨?_,?_,?_⟩<;>intro _ _ hh<;>omega
   ·simp [FH]
  ·simp at l2
 ·rcases v with _|⟨a,_|⟨b,_|⟨e,_|⟨g,v⟩⟩⟩⟩
  ·simp at l2
  ·simp at l2
  ·simp at l2
  ·have h1:=hv a (by simp)
   have h2:=hv b (by simp);have h5:=hv e (by simp);obtain ⟨h3,h4⟩:=hk x (by simp);obtain ⟨h6,h7⟩:=hk y (by simp);have s1:=sm a h1;have s2:=sm b h2;have s3:=sm x h3;have s4:=sm y h6;have s5:=sm e h5;refine ⟨?_,by simp [FH],by simp [FH],?_,Or.inl ?_⟩
   ·simp [DZ,FH,GF,IU,FQ,hd,hc,h1,h2,h3,h4,h5,h6,h7]
   ·simp [FH]
    refine ⟨?_,?_,?_,?_,?_⟩<;>intro _ _ hh<;>omega
   ·simp [FH]
  ·simp at l2
 ·simp at l1
end
theorem AjI {ck:Int} (l:List Int):(W3 (CB ck) l).length<=2 /\ ∀ v∈W3 (CB ck) l,FT (CB ck) v/\FT (CB ck) (-v):=by
 obtain ⟨hc,_,_⟩:=rK ck;have hf:=rJ ck;obtain ⟨h1,h2,h3,h4⟩:=MW hc;have s9:=hc;unfold WV at s9;have hp:=E0 (CB ck).f;have e1:=K0 (n:=(CB ck).f+1) (m:=(CB ck).b-1) (by omega);have e2:pw ((CB ck).f+1)=2*pw (CB ck).f:=by
  unfold pw;rw[show ((CB ck).f+1).toNat=(CB ck).f.toNat+1 by omega,Int.pow_succ];omega
 have key : ∀ v:Int,-pw (CB ck).f<v/\v<pw (CB ck).f->FT (CB ck) v/\FT (CB ck) (-v):=λ v hv=>⟨⟨hc,by omega,by omega⟩,⟨hc,by omega,by omega⟩⟩
 have t1:=VM (b:=pw (CB ck).f*3/4) (by omega) (FL l 1);have t2:=VM (b:=pw (CB ck).f/2) (by omega) (FL l 1);have t3:=VM (b:=(pw (CB ck).f+LW (pw (CB ck).f/2) (FL l 1))/2) (by omega) (FL l 2);unfold W3;split
 ·simp
 split
 ·refine ⟨by simp,λ v hv => ?_⟩
  obtain rfl:=List.mem_singleton.1 hv;exact key _ (by omega)
 ·refine ⟨by simp,λ v hv => ?_⟩
  simp only[List.mem_cons,List.not_mem_nil,or_false]at hv;rcases hv with rfl|rfl
  ·exact key _ (by omega)
  ·exact key _ (by omega)
theorem AiI {k v:List Int} {d c:Wd} (l1:k.length<=2) : ∀ m∈(FH k v d c).nodes,m.q=false:=by
 rcases k with _|⟨x,_|⟨y,_|⟨z,k⟩⟩⟩
 ·simp [FH]
 ·simp [FH]
 ·simp [FH]
 ·simp at l1
theorem dH (n:Nt) (h1:n.qn=false) (h2:n.qx=false) (h3 : ∀ m∈n.nodes,m.q=false):AZ (.g8 [.agg (CO n),.bool true]):=by
 have h:=tH n h1 h2 h3;simp only[AZ,BS,and_true,true_and]at h ⊢;exact h
theorem Agh (I:c7 L) (W:q6 L) (N:z8 L) (kd dk ck:Int) (h0:DT kd) (h1:DT dk) (h2:DT ck) (b a:List Int) (q1 q2:Bool) (lb:b.length<9223372036854775808) (la:a.length<9223372036854775808) (bp : ∀ v∈a,DT v) :
  ∃ n:Nt,CT n/\Ev L 348 [.agg [.int .i64 kd,.int .i64 dk,.int .i64 ck,.sl q1 (b.map BW),.sl q2 (a.map BW)]] (.g8 [.agg (CO n),.bool true]):=by
 have D:l6 L:=N.tol6;obtain ⟨wc,ki,nt⟩:=AeX dk;obtain ⟨jd,vy,qo⟩:=rK ck;have hk1:=SU (v:=(b.length:Int)) (m:=3) (by omega);have iv:=SU (v:=(a.length:Int)) (m:=3) (by omega);have Kd:=SU (v:=kd) (m:=4) (by omega);have hl:=MW jd;have hf:=rJ ck;have s9:=jd;unfold WV at s9;have hp:=E0 (CB ck).f;have e1:=K0 (n:=(CB ck).f+1) (m:=(CB ck).b-1) (by omega);have e2:pw ((CB ck).f+1)=2*pw (CB ck).f:=by
  unfold pw;rw[show ((CB ck).f+1).toNat=(CB ck).f.toNat+1 by omega,Int.pow_succ];omega
 have eb:=λ q=>YS W (pw ((CB ck).b-1)-1) (by omega) b q (1+DN b.length 3).toNat (by omega)
 have ek:=λ q=>YS W (pw (CB ck).f*3/4) (by omega) a q (DN a.length 3).toNat (by omega)
 have ev:=λ q=>YS W (pw ((CB ck).b-1)-1) (by omega) b q ((DN a.length 3).toNat+1) (by omega)
 have eP:=λ q=>Aho W N (CB ck) jd a q bp
 obtain ⟨xx,hQ⟩:=AjI (ck:=ck) a;rw[Int.toNat_of_nonneg (by omega)]at eb ek;have ev':((((DN a.length 3).toNat+1:Nat)):Int)=DN a.length 3+1:=by omega
 rw[ev']at ev;have w1:=WF W b.length 3 (by unfold DT;omega) (by omega);have w2:=WF W a.length 3 (by unfold DT;omega) (by omega);have w0:=WF W kd 4 h0 (by omega);have hU:=Ahp W (CB ck) jd;have lP:(HJ (pw ((CB ck).b-1)-1) b (1+DN b.length 3).toNat).length=(1+DN b.length 3).toNat:=aZ _ _ _;have lV:(HJ (pw ((CB ck).b-1)-1) b ((DN a.length 3).toNat+1)).length=(DN a.length 3).toNat+1:=aZ _ _ _;have lK:(HJ (pw (CB ck).f*3/4) a (DN a.length 3).toNat).length=(DN a.length 3).toNat:=aZ _ _ _;have hP:=qG jd b (1+DN b.length 3).toNat;have hV:=qG jd b ((DN a.length 3).toNat+1);have hK : ∀ v∈HJ (pw (CB ck).f*3/4) a (DN a.length 3).toNat,-pw (CB ck).f<v/\v<pw (CB ck).f:=by
  intro v hv;simp only[HJ,List.mem_map]at hv;obtain ⟨i,_,rfl⟩:=hv;have:=VM (b:=pw (CB ck).f*3/4) (by omega) (FL a i)
  omega
 have So : ∀ v∈HJ (pw (CB ck).f*3/4) a (DN a.length 3).toNat,FT (CB ck) v/\FT (CB ck) (-v):=λ v hv=>by
  have:=hK v hv
  exact ⟨⟨jd,by omega,by omega⟩,⟨jd,by omega,by omega⟩⟩
 generalize HJ (pw ((CB ck).b-1)-1) b (1+DN b.length 3).toNat=P at *;generalize HJ (pw ((CB ck).b-1)-1) b ((DN a.length 3).toNat+1)=V at *;generalize HJ (pw (CB ck).f*3/4) a (DN a.length 3).toNat=K at *;generalize W3 (CB ck) a=Q at *;have f1:=λ q q'=>Agl I D P Q q q' (HL dk) (CB ck) wc jd (by omega) (by omega) (λ v h=>(hP v h).1) hQ
 have f2:=λ q q'=>Agm I D P Q q q' (HL dk) (CB ck) wc jd (by omega) (by omega) (λ v h=>(hP v h).1) hQ
 have f3:=λ q q'=>Agn I D P Q q q' (HL dk) (CB ck) wc jd (by omega) (by omega) (λ v h=>(hP v h).1) hQ
 have f4:=λ q q'=>Agx I N K V q q' (HL dk) (CB ck) wc jd (by omega) (by omega) (λ v h=>(hV v h).1) So hK
 have g1:=AjE (d:=HL dk) wc jd (by omega) xx (λ v h=>(hP v h).1) hQ;have g2:=AjH (d:=HL dk) wc jd (by omega) xx (λ v h=>(hP v h).1) hQ;have g3:=AjG (d:=HL dk) wc jd (by omega) xx (λ v h=>(hP v h).1) hQ;have g4:=AjD (d:=HL dk) (k:=K) (v:=V) wc jd (by omega) (by omega) (λ v h=>(hV v h).1) So;have eD:=Ahn W dk h1;have eC:=Ahm W ck h2;have hlK:((K.length:Nat):Int)+1=DN a.length 3+1:=by omega
 by_cases k0:DN kd 4=0
 ·refine ⟨_,g1,?_⟩
  have u9:=dH (GW P Q (HL dk) (CB ck)) rfl rfl (by simp [GW]);generalize GW P Q (HL dk) (CB ck)=n at *;refine Ev.x N.IQ rfl rfl ?_;(repeat' ((first|(apply AG<;>intro hc<;>try omega)|(apply AQ;omega)|(apply BL;omega)|(refine FX ?_ (λ_ _ => ?_);omega)|(apply B3;omega)|apply AP|apply AE|refine AD (eD) ?_|refine AD (eC) ?_|refine AD (w1) ?_|refine AD (eb _) ?_|refine AD (eP _) ?_|refine AD (w0) ?_|refine AD (f1 _ _) ?_)<;>conv=>whnf))
  exact AW rfl u9
 by_cases k1:DN kd 4=1
 ·refine ⟨_,g2,?_⟩
  have u9:=dH (GX P Q (HL dk) (CB ck)) rfl rfl (by simp [GX]);generalize GX P Q (HL dk) (CB ck)=n at *;refine Ev.x N.IQ rfl rfl ?_;(repeat' ((first|(apply AG<;>intro hc<;>try omega)|(apply AQ;omega)|(apply BL;omega)|(refine FX ?_ (λ_ _ => ?_);omega)|(apply B3;omega)|apply AP|apply AE|refine AD (eD) ?_|refine AD (eC) ?_|refine AD (w1) ?_|refine AD (eb _) ?_|refine AD (eP _) ?_|refine AD (w0) ?_|refine AD (f2 _ _) ?_)<;>conv=>whnf))
  exact AW rfl u9
 by_cases k2:DN kd 4=2
 ·refine ⟨_,g3,?_⟩
  have u9:=dH (G2 P Q (HL dk) (CB ck)) rfl rfl (by simp [G2,JE]);generalize G2 P Q (HL dk) (CB ck)=n at *;refine Ev.x N.IQ rfl rfl ?_;(repeat' ((first|(apply AG<;>intro hc<;>try omega)|(apply AQ;omega)|(apply BL;omega)|(refine FX ?_ (λ_ _ => ?_);omega)|(apply B3;omega)|apply AP|apply AE|refine AD (eD) ?_|refine AD (eC) ?_|refine AD (w1) ?_|refine AD (eb _) ?_|refine AD (eP _) ?_|refine AD (w0) ?_|refine AD (f3 _ _) ?_)<;>conv=>whnf))
  exact AW rfl u9
 ·refine ⟨_,g4,?_⟩
  have u9:=dH (FH K V (HL dk) (CB ck)) rfl rfl (AiI (by omega));rw[<-hlK]at ev;generalize FH K V (HL dk) (CB ck)=n at *;refine Ev.x N.IQ rfl rfl ?_;(repeat' ((first|(apply AG<;>intro hc<;>try omega)|(apply AQ;omega)|(apply BL;omega)|(apply FW;omega)|(refine FX ?_ (λ_ _ => ?_);omega)|(refine LI ?_ ?_ (λ_ => ?_) (λ_ _ => ?_);omega;omega;all_goals try omega)|(apply B3;omega)|apply AP|apply AE|refine AD (eD) ?_|refine AD (eC) ?_|refine AD (w1) ?_|refine AD (w2) ?_|refine AD (eb _) ?_|refine AD (eP _) ?_|refine AD (w0) ?_|refine AD (hU) ?_|refine AD (ek _) ?_|refine AD (ev _) ?_|refine AD (f4 _ _) ?_)<;>conv=>whnf))
  exact AW rfl u9
end Go.c6

namespace Go.c6
open F
attribute [local irreducible] AA AF AX AC CN AR BA A6 BV BH CM EI BO AY B0 CJ AB A5 AH pw CQ CE C8 EA DP BT CP BU C7
variable {L:Lib}
set_option maxHeartbeats 8000000
set_option maxRecDepth 8000
def GY (n:Nt) (fr:Nat):List Rat:=F4 (Rat.divInt 1 (pw n.c.f)) ((fr:Int)-(n.s+1)) 0 (B8 (n.s+1).toNat fr) (BP n)
theorem Aht {l:List Rat} {m p:Nat} {x:Rat} (h:l[p]? = some x):(DX l m)[p]? = some (some x):=by
 have hi:=(zS h).1;rw[DX,List.getElem?_append_left (by rw[List.length_map];exact hi),List.getElem?_map,h];rfl
theorem wB {l:List Rat} {m p:Nat} {x:Rat} (h:p<l.length):(DX l m).set p (some x)=DX (l.set p x) m:=by
 simp only[DX,List.length_set];rw[List.set_append,if_pos (by rw[List.length_map];exact h),List.map_set]
theorem Alu {m:Nat} {p:Int} (h:(m:Int)<=p):B8 m p=List.replicate m 0:=by
 refine List.ext_getElem? λ i => ?_
 simp only[B8,List.getElem?_map,List.getElem?_replicate];by_cases hi:i<m
 ·rw[List.getElem?_range hi,if_pos hi]
  simp only[Option.map_some];rw[if_neg (by omega)]
 ·rw[List.getElem?_eq_none (by simpa using hi),if_neg hi];rfl
theorem wM {n:Nt} (hn:CT n) {u:Rat} (hu:Bt 24 u) {ex:Int} {w:List Rat} (hw:Bs 0 w) : ∀ j,j<=n.nodes.length->Bs 40000 (F4 u ex 0 w ((BP n).take j)):=by
 intro j hj;have ew:=hn.nl;have j9:(BP n).length=n.nodes.length:=by simp [BP]
 have e:0+((BP n).take j).length=j:=by rw[List.length_take,j9];omega
 have mem : ∀ ts∈(BP n).take j,∃ d∈n.nodes,d.ts=ts:=λ ts h=>List.mem_map.1 (List.mem_of_mem_take h)
 rcases hn.tl with h|⟨h0,h⟩
 ·have h1:=kU (ex:=ex) (m:=3) hu ((BP n).take j) 0 w (λ ts ht=>by obtain ⟨d,hd,rfl⟩:=mem ts ht;exact h d hd) (λ ts ht=>by obtain ⟨d,hd,rfl⟩:=mem ts ht;exact hn.cf d hd) hw
  rw[e]at h1;intro x hx;refine (h1 x hx).le ?_;have:j<=5:=by omega
  rcases j with _|_|_|_|_|_|j
  all_goals first|decide|omega
 ·have h1:=kU (ex:=ex) (m:=5) hu ((BP n).take j) 0 w (λ ts ht=>by obtain ⟨d,hd,rfl⟩:=mem ts ht;exact h d hd) (λ ts ht=>by obtain ⟨d,hd,rfl⟩:=mem ts ht;exact hn.cf d hd) hw
  rw[e]at h1;intro x hx;refine (h1 x hx).le ?_;have:j<=1:=by omega
  rcases j with _|_|j
  all_goals first|decide|omega
theorem wP (N:n8 L) (n:Nt) (fr:Nat) (hn:CT n) (hf:(fr:Int)<=n.s+n.nodes.length):AA L [.code F.H0.body] (CR 0 [.agg (CO n),.int .i64 (fr:Int)]) [] (λ tm M=>gT F.H0 3 ((GY n fr).map eQ) tm M/\RW F.H0 (.sl false ((GY n fr).map eQ)) tm M):=by
 obtain ⟨h1,h2,⟨Ru,Rv,Rw,Rx⟩,h4,h5,h6⟩:=(C5 n).1 hn.aw;have vp:=h2;unfold WV at vp;have k7:=hn.st;have ew:=hn.nl;obtain ⟨S,hS⟩ : ∃ S:Nat,n.s=(S:Int):=⟨n.s.toNat,by omega⟩;obtain ⟨T,hT⟩ : ∃ T:Nat,T=S+1+n.nodes.length:=⟨_,rfl⟩;have pe:=HN N.toa7 0 (by omega);have pf:=HN N.toa7 1 (by omega);rw[show ((0:Int):Rat)=0 from rfl]at pe;rw[show ((1:Int):Rat)=1 from rfl]at pf;have hF:=tR N.tow9 1 (pw n.c.f) (by omega) (by have:=E0 n.c.f;have:=dV (n:=n.c.f) (by omega);omega) (by have:=E0 n.c.f;omega);have hu:Bt 24 (Rat.divInt 1 (pw n.c.f)):=by
  have e1:=E0 n.c.f;have e2:=K0 (n:=n.c.f) (m:=23) (by omega);have e3:pw 23=8388608:=by unfold pw;rfl
  obtain ⟨e,he⟩:=Int.eq_ofNat_of_zero_le (show 0<=pw n.c.f by omega);rw[he]at e2 ⊢;rw[Rat.divInt_ofNat];refine Bt.mk (by decide) ?_;show _<=16777216;omega
 have j9:(BP n).length=n.nodes.length:=by simp [BP]
 have hlen : ∀ d∈n.nodes,d.ts.length<=5:=λ d hd=>by
  rcases hn.tl with h|⟨_,h⟩
  ·have:=h d hd;omega
  ·exact h d hd
 obtain ⟨ex,hex⟩ : ∃ ex:Int,ex=(fr:Int)-(n.s+1):=⟨_,rfl⟩;have hw:(B8 (S+1) fr).length=S+1:=TW _ _;have Ej : ∀ j,j<=n.nodes.length->Bs 40000 (F4 (Rat.divInt 1 (pw n.c.f)) ex 0 (B8 (S+1) fr) ((BP n).take j)):=wM hn hu (Bs.unit _ _ _);have gp : ∀ j,j<=n.nodes.length->(F4 (Rat.divInt 1 (pw n.c.f)) ex 0 (B8 (S+1) fr) ((BP n).take j)).length=S+1+j:=λ j hj=>by
  rw[kV,TW,List.length_take,j9];omega
 have lz:=AhE (Rat.divInt 1 (pw n.c.f)) ex (B8 (S+1) fr) (BP n);have u9:GY n fr=F4 (Rat.divInt 1 (pw n.c.f)) ex 0 (B8 (S+1) fr) ((BP n).take n.nodes.length):=by
  rw[GY,hex,<-j9,List.take_length,hS];rfl
 rw[u9];clear u9;generalize Rat.divInt 1 (pw n.c.f)=u at *;refine id ?_;(repeat' ((first|(apply AQ;omega)|apply AP|apply AE)<;>conv=>whnf))
 refine D9 (enc:=eO) none T rfl (by omega) (by omega) ?_;(conv=>whnf)
 skip
 refine D8 (λ i=>S+1-i) (λ(i:Nat)=>i<=S+1) (λ i=>[(24,.int .i64 i)]) (λ i=>[(22,22,.rw 3 ((DX (List.replicate i (0:Rat)) T).map eO))]) [] [] 0 (by rw[List.replicate_zero,WK];exact (by (conv=>whnf);exact ⟨rfl,rfl,rfl⟩)) (by omega) ?_;intro i p1 ih;by_cases hi:i<S+1
 ·have hs:=UU (l:=List.replicate i (0:Rat)) (m:=T) (x:=0) (by rw[List.length_replicate];omega)
  have Gm:=SA (l:=List.replicate i (0:Rat)) (m:=T) (by rw[List.length_replicate];omega);rw[List.length_replicate,<-List.replicate_succ']at hs;generalize DX (List.replicate i (0:Rat)) T=F0 at *;(repeat' ((first|(apply AG<;>intro hc<;>try omega)|(apply A2;omega)|apply AE|refine AD (pe) ?_)<;>conv=>whnf))
  refine KB (enc:=eO) (some 0) rfl (λ e=>by cases e<;>rfl) (by omega) ?_;(conv=>whnf)
  rw[hs];(repeat' ((first|(apply AQ;omega)|fail)<;>conv=>whnf))
  exact BB [] (ih (i+1) (by omega) (by omega))
 have ei:i=S+1:=by omega
 clear ih;rw[ei];have Gm:=SA (l:=List.replicate (S+1) (0:Rat)) (m:=T) (by rw[List.length_replicate];omega);by_cases hfr:fr<S+1;focus
  have wq:=wB (l:=List.replicate (S+1) (0:Rat)) (m:=T) (x:=1) (p:=fr) (by rw[List.length_replicate];exact hfr);rw[oM]at wq;generalize DX (List.replicate (S+1) (0:Rat)) T=F0 at *;(repeat' ((first|(apply AG<;>intro hc<;>try omega)|(apply A2;omega)|apply AE|refine AD (pf) ?_)<;>conv=>whnf))
  refine KB (enc:=eO) (some 1) rfl (λ e=>by cases e<;>rfl) (by omega) ?_;(conv=>whnf)
  rw[wq]
 rotate_left
 focus
  rw[<-Alu (m:=S+1) (p:=fr) (by omega)]
 all_goals
  generalize B8 (S+1) fr=w at *;(repeat' ((first|(apply AG<;>intro hc<;>try omega)|(refine FX ?_ (λ_ _ => ?_);omega)|apply AP|apply AE|refine AD (hF) ?_)<;>conv=>whnf))
  refine D4 (λ j=>n.nodes.length-j) (λ(j:Nat)=>j<=n.nodes.length) (λ j=>[(47,.int .i64 j)]) (λ j=>[(22,22,.rw 3 ((DX (F4 u ex 0 w ((BP n).take j)) T).map eO))]) 0 (by omega) ?_;clear p1;intro j p1 ih;by_cases hj:j<n.nodes.length
  ·obtain ⟨nd,hnd⟩ : ∃ nd,n.nodes[j]? = some nd:=⟨_,zE hj⟩
   have uq:n.nodes[(j:Int).toNat]? = some nd:=hnd;have dd:(BP n)[j]? = some nd.ts:=by simp [BP,hnd]
   have Ti:=Ej j p1;have fi:=gp j p1;have rz:=lz j nd.ts dd;have Ax:=ZC h4 hnd;have hL:nd.ts.length<=5:=hlen _ (zM hnd);have hC:=hn.cf _ (zM hnd);generalize hV:F4 u ex 0 w ((BP n).take j)=V at *;have uc:=SA (l:=V) (m:=T) (by omega);have Hx : ∀ (p:Nat) (x:Rat),V[p]? = some x->(DX V T)[p]? = some (some x):=λ p x h=>Aht h
   have hFs : ∀ x:Rat,(DX V T).set (S+1+j) (some x)=DX (V++[x]) T:=λ x=>by rw[<-fi];exact UU (by omega)
   have Ia : ∀ x y:Rat,(DX (V++[x]) T).set (S+1+j) (some y)=DX (V++[y]) T:=λ x y=>by
    rw[wB (by rw[List.length_append,List.length_singleton];omega),<-fi,List.set_append,if_neg (by omega),Nat.sub_self];rfl
   have Hz : ∀ x:Rat,(DX (V++[x]) T).length=T:=λ x=>SA (by rw[List.length_append,List.length_singleton];omega)
   (repeat' ((first|(apply AG<;>intro hc<;>try omega)|apply AP|(refine A9 (by assumption) ?_ rfl ?_;omega)|apply AE|refine AD (pe) ?_)<;>conv=>whnf))
   refine FU (λ t _=>nd.ts.length-t) (λ(t:Nat) (acc:Rat)=>t<=nd.ts.length/\acc=CD V (nd.ts.take t)) (λ t acc=>[(56,.int .i64 t)]) (λ t acc=>[(11,11,.bx (eQ acc))]) 0 (0:Rat) ⟨by omega,rfl⟩ ?_;intro t acc ⟨p3,p4⟩ jh;have my:Bt 200125 acc:=by
    rw[p4];have a1:=Ti.sum (nd.ts.take t) (j:=24) (λ e he=>Bt.ofInt (hC e (List.mem_of_mem_take he)));refine a1.le (Nat.le_trans (zR _ (show (nd.ts.take t).length<=5 by rw[List.length_take];omega)) (by decide))
   by_cases ht:t<nd.ts.length
   ·obtain ⟨e,he⟩ : ∃ e,nd.ts[t]? = some e:=⟨_,zE ht⟩
    have fh:nd.ts[(t:Int).toNat]? = some e:=he;have Dn:=zM he;have j7:=List.all_eq_true.1 Ax e Dn;simp only[FQ,decide_eq_true_eq]at j7;have Fy:=hC e Dn;obtain ⟨x,hx⟩ : ∃ x,V[e.1.toNat]? = some x:=⟨_,zE (by omega)⟩;have Ll:=Hx _ _ hx;have En:((DX V T).map eO)[0+e.1.toNat]? = some (eO (some x)):=by rw[Nat.zero_add,List.getElem?_map,Ll];rfl
    have Ha:V.getD e.1.toNat 0=x:=by rw[List.getD_eq_getElem?_getD,hx];rfl
    have qm:=Ti.at hx;have zo:=Qz (vals:=V) he;rw[Ha]at zo;have Ce:=WE N.toa7 qm (by omega);have hE:=HN N.toa7 e.2 (by have:(2:Nat)^24=16777216:=rfl;omega);have hM:=I6 N.toa7 qm (Bt.ofInt Fy) (by omega) (by omega);have hA:=JQ N.toa7 my (qm.mul (Bt.ofInt Fy)) (by omega) (by omega);have z1:=TR (x:=x);generalize o9 x.num=sx at *;generalize DX V T=F0 at *;by_cases q2:sx=0
    ·have na:=z1.1 q2
     (repeat' ((first|(apply AG<;>intro hc<;>try omega)|(apply A2;omega)|(refine A9 (by assumption) ?_ rfl ?_;omega)|apply AE)<;>conv=>whnf))
     refine LX En rfl ?_;(conv=>whnf)
     (repeat' ((first|(apply AG<;>intro hc<;>try omega)|(apply AQ;omega)|refine AD (Ce) ?_)<;>conv=>whnf))
     have Ao:=jh (t+1) acc (by omega) ⟨by omega,by rw[zo,na,Rat.mul_zero,Rat.add_zero];exact p4⟩;exact BN [] (by (conv=>whnf);exact ⟨rfl,rfl,rfl⟩) Ao
    ·(repeat' ((first|(apply AG<;>intro hc<;>try omega)|(apply A2;omega)|(refine A9 (by assumption) ?_ rfl ?_;omega)|apply AE)<;>conv=>whnf))
     refine LX En rfl ?_;(conv=>whnf)
     (repeat' ((first|(apply AG<;>intro hc<;>try omega)|(apply A2;omega)|refine AD (Ce) ?_)<;>conv=>whnf))
     refine LX En rfl ?_;(conv=>whnf)
     (repeat' ((first|(apply AQ;omega)|refine AD (hE) ?_|refine AD (hM) ?_|refine AD (hA) ?_)<;>conv=>whnf))
     have Ao:=jh (t+1) (acc+x*((e.2:Int):Rat)) (by omega) ⟨by omega,by rw[zo,<-p4,Rat.mul_comm]⟩;exact BN [] (by (conv=>whnf);exact ⟨rfl,rfl,rfl⟩) Ao
   ·obtain rfl:t=nd.ts.length:=by omega
    clear jh;rw[List.take_length]at p4;have Sy:=I6 N.toa7 my hu (by omega) (by omega);rw[<-p4]at rz;have s1:=hFs (acc*u);have s2:=Ia (acc*u) 1;have l2:=Hz (acc*u);generalize DX V T=F0 at *;by_cases q5:(j:Int)=ex
    ·have q7:=q5
     first
     | (exfalso;omega)
     |(rw[if_pos q5]at rz
       (repeat' ((first|(apply AG<;>intro hc<;>try omega)|(apply A2;omega)|(apply AQ;omega)|apply AE|refine AD (Sy) ?_)<;>conv=>whnf))
       refine KA (enc:=eO) (S+1+j) (some (acc*u)) (by omega) rfl (λ e=>by cases e<;>rfl) (by omega) ?_;rw[s1];generalize DX (V++[acc*u]) T=F1 at *;(conv=>whnf)
       (repeat' ((first|(apply AG<;>intro hc<;>try omega)|(apply A2;omega)|(apply AQ;omega)|refine AD (pf) ?_)<;>conv=>whnf))
       refine KA (enc:=eO) (S+1+j) (some 1) (by omega) rfl (λ e=>by cases e<;>rfl) (by omega) ?_;rw[s2,<-rz];(conv=>whnf)
       (repeat' ((first|(apply AQ;omega)|fail)<;>conv=>whnf))
       exact BB [] (ih (j+1) (by omega) (by omega)))
    ·rw[if_neg q5]at rz
     (repeat' ((first|(apply AG<;>intro hc<;>try omega)|(apply A2;omega)|(apply AQ;omega)|apply AE|refine AD (Sy) ?_)<;>conv=>whnf))
     refine KA (enc:=eO) (S+1+j) (some (acc*u)) (by omega) rfl (λ e=>by cases e<;>rfl) (by omega) ?_;rw[s1,<-rz];(conv=>whnf)
     (repeat' ((first|(apply AG<;>intro hc<;>try omega)|(apply AQ;omega))<;>conv=>whnf))
     exact BB [] (ih (j+1) (by omega) (by omega))
  ·obtain rfl:j=n.nodes.length:=by omega
   clear ih;have fi:=gp n.nodes.length p1;rw[WJ (by omega)];(repeat' ((first|(apply AG<;>intro hc<;>try omega)|apply AE)<;>conv=>whnf))
   refine ⟨⟨rfl,rfl,by rw[List.length_map];omega,rfl,KS _⟩,?_⟩;(conv=>whnf)
   refine CZ (enc:=eQ) (λ_=>rfl) rfl (by omega) ?_;(conv=>whnf)
   exact AW rfl (by simp only[AZ,true_and];exact KS _)
theorem Ags (N:n8 L) (n:Nt) (fr:Nat) (hn:CT n) (hf:(fr:Int)<=n.s+n.nodes.length):KQ L 351 [.agg (CO n),.int .i64 (fr:Int)] 3 ((GY n fr).map eQ):=KQ.x N.H0 rfl rfl (oU (wP N n fr hn hf) λ_ _ h=>h.1)
theorem tZ (N:n8 L) (n:Nt) (fr:Nat) (hn:CT n) (hf:(fr:Int)<=n.s+n.nodes.length):Ev L 351 [.agg (CO n),.int .i64 (fr:Int)] (.sl false ((GY n fr).map eQ)):=Ev.x N.H0 rfl rfl (oU (wP N n fr hn hf) λ_ _ h=>h.2)
theorem vM (I:c7 L) (N:n8 L) (n:Nt) (hn:CT n):Ev L 349 [.agg (CO n)] (.bool true):=by
 have hV:=uK n I N.tou4;rw[hn.aw]at hV;have:=hn.st
 refine Ev.x N.OC rfl rfl ?_;(repeat' ((first|(apply AG<;>intro hc<;>try omega)|apply AE|refine AD (hV) ?_)<;>conv=>whnf))
 exact FV rfl
theorem tV (N:n8 L) (a b:Rat) (v:Int) (k:Nat) (ha:Bt k a) (hb:Bt k b) (hk:k<=1000000000000) (hv:v.natAbs<=2^24):Ev L 353 [.agg (eQ a++eQ b),.int .i64 v] (.agg (eQ (a*(v:Rat)+b))):=by
 have hO:=HN N.toa7 v (by have:(2:Nat)^24=16777216:=rfl;omega);have hM:=I6 N.toa7 ha (Bt.ofInt hv) (by omega) (by omega);have hA:=JQ N.toa7 (ha.mul (Bt.ofInt hv)) hb (by omega) (by omega);refine Ev.x N.NV rfl rfl ?_;(repeat' ((first|apply AE|refine AD (hO) ?_|refine AD (hM) ?_|refine AD (hA) ?_)<;>conv=>whnf))
 exact AW rfl (C3 _)
def E3 (C:List (List Rat)) (v:Nat):List Rat:=C.map λ c=>c.getD v 0
theorem uQ (N:n8 L) (q q':Bool) (C:List (List Rat)) (v:Nat) (hl:C.length<=1000000) (hv : ∀ c∈C,v<c.length):Ev L 352 [.sl q (IB q' C),.int .i64 (v:Int)] (.sl false ((E3 C v).map eQ)):=by
 refine Ev.x N.N7 rfl rfl ?_;(repeat' ((first|apply AP|apply AE)<;>conv=>whnf))
 refine D9 (enc:=eO) none C.length rfl rfl (by omega) ?_;(conv=>whnf)
 (repeat' (apply AP<;>conv=>whnf))
 refine D8 (λ i=>C.length-i) (λ(i:Nat)=>i<=C.length) (λ i=>[(12,.int .i64 i)]) (λ i=>[(9,9,.rw 3 ((DX ((E3 C v).take i) C.length).map eO))]) [] [] 0 (by rw[List.take_zero,WK];exact (by (conv=>whnf);exact ⟨rfl,rfl,rfl⟩)) (by omega) ?_;intro i p1 ih;have cg:(E3 C v).length=C.length:=List.length_map _;have fk:((E3 C v).take i).length=i:=by rw[List.length_take,cg];omega
 have Gm:=SA (l:=(E3 C v).take i) (m:=C.length) (by omega);by_cases hi:i<C.length
 ·obtain ⟨c,hc⟩ : ∃ c,C[i]? = some c:=⟨_,zE hi⟩
  have s9:C[(i:Int).toNat]? = some c:=hc;have v9:=hv c (zM hc);obtain ⟨x,hx⟩ : ∃ x,c[v]? = some x:=⟨_,zE v9⟩;have lf:c[(v:Int).toNat]? = some x:=hx;have hy:(E3 C v)[i]? = some x:=by rw[E3,List.getElem?_map,hc,Option.map_some,List.getD_eq_getElem?_getD,hx];rfl
  have hs:=UU (l:=(E3 C v).take i) (m:=C.length) (x:=x) (by omega);rw[fk,<-I0 hy]at hs;generalize DX ((E3 C v).take i) C.length=F0 at *;(repeat' ((first|(apply AG<;>intro hc<;>try omega)|(apply A2;omega)|(refine A9 (by assumption) ?_ rfl ?_;omega)|apply AE)<;>conv=>whnf))
  refine KB (enc:=eO) (some x) rfl (λ e=>by cases e<;>rfl) (by omega) ?_;(conv=>whnf)
  rw[hs];(repeat' ((first|(apply AQ;omega)|fail)<;>conv=>whnf))
  exact BB [] (ih (i+1) (by omega) (by omega))
 obtain rfl:i=C.length:=by omega
 clear ih;rw[zT (by omega),WJ cg];(repeat' ((first|(apply AG<;>intro hc<;>try omega)|apply AE)<;>conv=>whnf))
 refine CZ (enc:=eQ) (λ_=>rfl) rfl (by omega) ?_;(conv=>whnf)
 skip
 exact AW rfl (by simp only[AZ,true_and];exact KS _)
def RQ (n:Nt) (ts:List (Int × Int)):Bool:=ts.all λ t=>decide (t.2%pw n.c.f=0)
def DY (n:Nt) (nd:Nd):Rat:=if RQ n nd.ts=true then 0 else if n.d.r=2 then Rat.divInt 1 2 else 1
theorem Qi {n:Nt} {ts:List (Int × Int)} {i:Nat} {t:Int × Int} (h:ts[i]? = some t):RQ n (ts.take (i+1))=(RQ n (ts.take i)&&decide (t.2%pw n.c.f=0)):=by
 rw[List.take_add_one,h,Option.toList_some,RQ,List.all_append];simp [RQ]
theorem AgA (N:n8 L) (n:Nt) (hn:CT n) (k:Nat) (nd:Nd) (hnd:n.nodes[k]? = some nd):Ev L 350 [.agg (CO n),.int .i64 (k:Int)] (.agg (eQ (DY n nd))):=by
 obtain ⟨h1,h2,⟨Ru,Rv,Rw,Rx⟩,h4,h5,h6⟩:=(C5 n).1 hn.aw;have vp:=h2;unfold WV at vp;have uq:n.nodes[(k:Int).toNat]? = some nd:=hnd;have pe:=HN N.toa7 0 (by omega);have pf:=HN N.toa7 1 (by omega);have hF:=tR N.tow9 1 2 (by omega) (by omega) (by omega);rw[show ((0:Int):Rat)=0 from rfl]at pe;rw[show ((1:Int):Rat)=1 from rfl]at pf;have pj:=E0 n.c.f;have hC:=hn.cf _ (zM hnd);have Gj:=(zS hnd).1;have hL:nd.ts.length<=5:=by
  rcases hn.tl with h|⟨_,h⟩
  ·have:=h _ (zM hnd);omega
  ·exact h _ (zM hnd)
 refine Ev.x N.N6 rfl rfl ?_;(repeat' ((first|(refine FX ?_ (λ_ _ => ?_);omega)|apply AP|(refine A9 (by assumption) ?_ rfl ?_;omega)|apply AE)<;>conv=>whnf))
 refine FU (λ i _=>nd.ts.length-i) (λ(i:Nat) (b:Bool)=>i<=nd.ts.length/\b=RQ n (nd.ts.take i)) (λ i b=>[(20,.int .i64 i),(6,.bool b)]) (λ_ _=>[]) 0 true ⟨by omega,by simp [RQ]⟩ ?_;intro i b ⟨p1,p2⟩ ih;by_cases hi:i<nd.ts.length
 ·obtain ⟨t,ht⟩ : ∃ t,nd.ts[i]? = some t:=⟨_,zE hi⟩
  have ju:nd.ts[(i:Int).toNat]? = some t:=ht;have hw:=Qi (n:=n) ht;rw[<-p2]at hw;by_cases hz:t.2%pw n.c.f=0
  ·rw[decide_eq_true hz,Bool.and_true]at hw
   (repeat' ((first|(apply AG<;>intro hc<;>try omega)|(apply AQ;omega)|(refine QP ?_ (λ_ _ _ => ?_) (λ_ _ _ _ => ?_);omega;all_goals try omega)|(refine A9 (by assumption) ?_ rfl ?_;omega)|apply AE)<;>conv=>whnf))
   exact BB [] (ih (i+1) b (by omega) ⟨by omega,hw.symm⟩)
  ·rw[decide_eq_false hz,Bool.and_false]at hw
   (repeat' ((first|(apply AG<;>intro hc<;>try omega)|(apply AQ;omega)|(refine QP ?_ (λ_ _ _ => ?_) (λ_ _ _ _ => ?_);omega;all_goals try omega)|(refine A9 (by assumption) ?_ rfl ?_;omega)|apply AE)<;>conv=>whnf))
   all_goals exact BB [] (ih (i+1) false (by omega) ⟨by omega,hw.symm⟩)
 have ei:i=nd.ts.length:=by omega
 clear ih;rw[ei,List.take_length]at p2;cases b
 ·by_cases hr:n.d.r=2
  ·have e:DY n nd=Rat.divInt 1 2:=by rw[DY,<-p2,if_neg (by decide),if_pos hr]
   rw[e];(repeat' ((first|(apply AG<;>intro hc<;>try omega)|apply AE|refine AD (hF) ?_)<;>conv=>whnf))
   exact AW rfl (C3 _)
  ·have e:DY n nd=1:=by rw[DY,<-p2,if_neg (by decide),if_neg hr]
   rw[e];(repeat' ((first|(apply AG<;>intro hc<;>try omega)|apply AE|refine AD (pf) ?_)<;>conv=>whnf))
   exact AW rfl (C3 _)
 ·have e:DY n nd=0:=by rw[DY,<-p2,if_pos rfl]
  rw[e];(repeat' ((first|(apply AG<;>intro hc<;>try omega)|apply AE|refine AD (pe) ?_)<;>conv=>whnf))
  exact AW rfl (C3 _)
end Go.c6

namespace Go.c6
set_option maxHeartbeats 2000000
structure CK where
 g:List Rat
 l:Rat
 b:List Rat
def FG (n:Nt):List (List Rat):=(List.range n.s.toNat).map λ j=>GY n (1+j)
def aN (n:Nt):List (List Rat):=n.next.map λ v=>E3 (FG n) v.toNat
def V2 (n:Nt) (g:List Rat):List Rat:=n.next.map λ v=>g.getD v.toNat 0
def E8 (n:Nt) (i:Nat) (l:Rat):CK:=⟨GY n i,l,V2 n (GY n i)⟩
def W8 (n:Nt) (k:Nat):Option CK:=match n.nodes[k]? with
 | some nd=>if 0<DY n nd then some (E8 n (1+n.s.toNat+k) (DY n nd)) else none
 | none=>none
def DM (n:Nt) (k:Nat):List CK:=(List.range k).filterMap (W8 n)
def q8 (n:Nt):List CK:=E8 n 0 1::DM n n.nodes.length
theorem nT (n:Nt) (k:Nat):DM n (k+1)=DM n k++(W8 n k).toList:=by
 rw[DM,List.range_succ,List.filterMap_append];congr 1
theorem fK (n:Nt) : ∀ k,(DM n k).length<=k
 | 0=>by simp [DM]
 | k+1=>by
  rw[nT,List.length_append];have:=fK n k
  cases W8 n k<;>simp<;>omega
theorem AiM (n:Nt) (nd:Nd):DY n nd=0\/DY n nd=Rat.divInt 1 2\/DY n nd=1:=by
 unfold DY;split
 ·exact Or.inl rfl
 ·split
  ·exact Or.inr (Or.inl rfl)
  ·exact Or.inr (Or.inr rfl)
theorem TJ (n:Nt) (nd:Nd):Bt 1 (DY n nd)/\0<=DY n nd:=by
 rcases AiM n nd with h|h|h<;>rw[h]<;>exact ⟨⟨by decide,by decide⟩,by decide⟩
theorem cT {n:Nt} (hn:CT n) (fr:Nat):(GY n fr).length=n.s.toNat+1+n.nodes.length:=by
 obtain ⟨_,_,⟨h,_⟩,_⟩:=(C5 n).1 hn.aw;rw[GY,kV,TW];simp [BP];omega
theorem wL {n:Nt} (hn:CT n) (fr:Nat):Bs 40000 (GY n fr):=by
 obtain ⟨_,h2,⟨h,_⟩,_⟩:=(C5 n).1 hn.aw;unfold WV at h2;have hu:Bt 24 (Rat.divInt 1 (pw n.c.f)):=by
  have e1:=E0 n.c.f;have e2:=K0 (n:=n.c.f) (m:=23) (by omega);have e3:pw 23=8388608:=by unfold pw;rfl
  obtain ⟨e,he⟩:=Int.eq_ofNat_of_zero_le (show 0<=pw n.c.f by omega);rw[he]at e2 ⊢;rw[Rat.divInt_ofNat];refine Bt.mk (by decide) ?_;show _<=16777216;omega
 have j9:(BP n).length=n.nodes.length:=by simp [BP]
 have:=wM hn hu (ex:=(fr:Int)-(n.s+1)) (w:=B8 (n.s+1).toNat fr) (Bs.unit _ _ _) n.nodes.length (Nat.le_refl _)
 rwa [<-j9,List.take_length]at this
structure QR (n:Nt) (s:CK):Prop where
 gl:s.g.length=n.s.toNat+1+n.nodes.length
 gb:Bs 40000 s.g
 lb:Bt 1 s.l
 l0:0<=s.l
 b:s.b=V2 n s.g
theorem nS {n:Nt} (hn:CT n) (i:Nat) {l:Rat} (hl:Bt 1 l) (h0:0<=l):QR n (E8 n i l):=⟨cT hn i,wL hn i,hl,h0,rfl⟩
theorem AkR {n:Nt} (hn:CT n) {k:Nat} : ∀ s∈DM n k,QR n s:=by
 intro s hs;simp only[DM,List.mem_filterMap,W8]at hs;obtain ⟨j,_,hj⟩:=hs;cases h:n.nodes[j]? with
 | none=>rw[h]at hj;cases hj
 | some nd =>
  simp only[h]at hj;by_cases hp:0<DY n nd
  ·rw[if_pos hp,Option.some.injEq]at hj
   rw[<-hj];exact nS hn _ (TJ n nd).1 (TJ n nd).2
  ·rw[if_neg hp]at hj;cases hj
theorem Mj {n:Nt} (hn:CT n):QR n (E8 n 0 1):=nS hn 0 ⟨by decide,by decide⟩ (by decide)
theorem XA {n:Nt} (hn:CT n) : ∀ s∈q8 n,QR n s:=by
 intro s hs;rcases List.mem_cons.1 hs with rfl|hs
 ·exact Mj hn
 ·exact AkR hn s hs
theorem Mk {n:Nt} (hn:CT n):1<=(q8 n).length/\(q8 n).length<=6:=by
 have:=fK n n.nodes.length
 have:=hn.nl
 simp only[q8,List.length_cons];omega
theorem WL {k:Nat} {l:List Rat} (h:Bs k l) (i:Nat):Bt k (l.getD i 0):=by
 rw[List.getD_eq_getElem?_getD];cases e:l[i]? with
 | none=>exact Bt.zero k
 | some x=>exact h.at e
theorem W0 {n:Nt} (hn:CT n):n.next.length=n.s.toNat /\ ∀ v∈n.next,0<=v/\v.toNat<n.s.toNat+1+n.nodes.length:=by
 obtain ⟨_,_,⟨h1,h2,h3,h4⟩,_,h5,_⟩:=(C5 n).1 hn.aw;refine ⟨by omega,λ v hv => ?_⟩;have:=of_decide_eq_true (List.all_eq_true.1 h5 v hv)
 omega
theorem Yi {n:Nt} (hn:CT n) (g:List Rat):(V2 n g).length=n.s.toNat:=by
 rw[V2,List.length_map];exact (W0 hn).1
theorem Yh {n:Nt} {k:Nat} {g:List Rat} (hg:Bs k g):Bs k (V2 n g):=by
 intro x hx;obtain ⟨v,_,rfl⟩:=List.mem_map.1 hx;exact WL hg _
theorem QR.bl {n:Nt} {s:CK} (hn:CT n) (h:QR n s):s.b.length=n.s.toNat:=by rw[h.b];exact Yi hn _
theorem QR.bb {n:Nt} {s:CK} (h:QR n s):Bs 40000 s.b:=by rw[h.b];exact Yh h.gb
theorem bR (n:Nt):(FG n).length=n.s.toNat:=by simp [FG]
theorem Aey {n:Nt} {j:Nat} (h:j<n.s.toNat):(FG n)[j]? = some (GY n (1+j)):=by
 rw[FG,List.getElem?_map,List.getElem?_range h];rfl
theorem rO {n:Nt} (hn:CT n) : ∀ c∈FG n,c.length=n.s.toNat+1+n.nodes.length:=by
 intro c hc;obtain ⟨j,_,rfl⟩:=List.mem_map.1 hc;exact cT hn _
theorem mZ (n:Nt) (v:Nat):(E3 (FG n) v).length=n.s.toNat:=by rw[E3,List.length_map,bR]
theorem mY {n:Nt} (hn:CT n) (v:Nat):Bs 40000 (E3 (FG n) v):=by
 intro x hx;obtain ⟨c,hc,rfl⟩:=List.mem_map.1 hx;obtain ⟨j,_,rfl⟩:=List.mem_map.1 hc;exact WL (wL hn _) _
theorem QT {n:Nt} (hn:CT n):Sq n.s.toNat (aN n):=by
 refine ⟨by rw[aN,List.length_map];exact (W0 hn).1,λ r hr => ?_⟩;obtain ⟨v,_,rfl⟩:=List.mem_map.1 hr;exact mZ n _
theorem aW {n:Nt} (hn:CT n):Ms 40000 (aN n):=by
 intro r hr;obtain ⟨v,_,rfl⟩:=List.mem_map.1 hr;exact mY hn _
theorem Pf {n kA kB:Nat} {a:List (List Rat)} {b:List Rat} {D E:Rat} (hs:Sq n a) (hA : ∀ r∈B9 D a,∀ x∈r,Wh kA x) (hB : ∀ x∈b.map (· * E),Wh kB x) : ∀ j,∀ x∈DD a b D E j,Wh (kB+j*(kA+n)) x
 | 0=>by
  rw[gC];intro x hx;exact (hB x hx).le (by omega)
 | j+1=>by
  rw[gB];intro x hx;refine (Qg hA (eU _ hs.r) (Pf hs hA hB j) x hx).le ?_;simp only[Nat.succ_mul];omega
theorem kK {n:Nat} : ∀ {ls:List (List Rat)},(∀ r∈ls,r.length=n)->ls.flatten.length=ls.length*n
 | [],_=>by simp
 | r::l,h=>by
  rw[List.flatten_cons,List.length_append,kK λ x hx=>h x (List.mem_cons_of_mem _ hx),h r List.mem_cons_self,List.length_cons,Nat.succ_mul,Nat.add_comm]
def YA (n:Nt):Rat:=HH ((q8 n).map (·.b)).flatten
theorem Aez {n:Nt} (hn:CT n) : ∃ E:Nat,YA n=(E:Rat)/\0<E/\Bt 960000 (E:Rat) /\ ∀ s∈q8 n,∀ x∈s.b.map (· * (E:Rat)),Wh 1000000 x:=by
 have hl:((q8 n).map (·.b)).flatten.length<=24:=by
  have h1:=(Mk hn).2;have h2:=hn.st;rw[kK (n:=n.s.toNat) (λ r hr=>by obtain ⟨s,hs,rfl⟩:=List.mem_map.1 hr;exact (XA hn s hs).bl hn),List.length_map];exact Nat.le_trans (Nat.mul_le_mul h1 (show n.s.toNat<=4 by omega)) (by omega)
 have hb:Bs 40000 ((q8 n).map (·.b)).flatten:=by
  intro x hx;obtain ⟨r,hr,hx⟩:=List.mem_flatten.1 hx;obtain ⟨s,hs,rfl⟩:=List.mem_map.1 hr;exact (XA hn s hs).bb x hx
 obtain ⟨E,e1,e2,e3,e4⟩:=Y7 rfl hb;refine ⟨E,e1,e2,(U5 e3).le (by omega),λ s hs x hx => ?_⟩;obtain ⟨y,hy,rfl⟩:=List.mem_map.1 hx;exact (e4 _ (List.mem_map.2 ⟨y,List.mem_flatten.2 ⟨s.b,List.mem_map.2 ⟨s,hs,rfl⟩,hy⟩,rfl⟩)).le (by omega)
theorem Ng {n:Nt} (hn:CT n) : ∃ D E:Nat,HH (aN n).flatten=(D:Rat)/\YA n=(E:Rat)/\0<D/\0<E/\Bt 640000 (D:Rat)/\Bt 960000 (E:Rat)/\Ms 680000 (B9 (D:Rat) (aN n)) /\ ∀ s∈q8 n,∀ j,j<=128->Bs 90000000 (DD (aN n) s.b (D:Rat) (E:Rat) j):=by
 obtain ⟨D,d1,d2,d3,d4⟩:=ZX (QT hn) (aW hn);obtain ⟨E,e1,e2,e3,e4⟩:=Aez hn;have k7:=hn.st;have ur:n.s.toNat*n.s.toNat<=4*4:=Nat.mul_le_mul (by omega) (by omega);have yz:n.s.toNat*n.s.toNat*40000<=640000:=Nat.le_trans (zR 40000 ur) (by omega);refine ⟨D,E,d1,e1,d2,e2,(U5 d3).le yz,e3,λ r hr x hx=>((d4 r hr x hx).le (by omega)).bt,λ s hs j hj x hx => ?_⟩;have hA : ∀ r∈B9 (D:Rat) (aN n),∀ x∈r,Wh 680000 x:=λ r hr x hx=>(d4 r hr x hx).le (by omega)
 refine ((Pf (QT hn) hA (e4 s hs) j x hx).le ?_).bt;have:=Nat.mul_le_mul hj (show 680000+n.s.toNat<=680004 by omega)
 omega
def x9 (f:CK->Rat) (l:List CK):Rat:=l.foldl (λ a s=>a+f s) 0
theorem yT (f:CK->Rat) (l:List CK) (s:CK):x9 f (l++[s])=x9 f l+f s:=by rw[x9,List.foldl_append];rfl
theorem cZ {f:CK->Rat} {l:List CK} {i:Nat} {s:CK} (h:l[i]? = some s):x9 f (l.take (i+1))=x9 f (l.take i)+f s:=by
 rw[List.take_add_one,h,Option.toList_some,yT]
theorem AiU {f g:CK->Rat} {l:List CK} (h : ∀ s∈l,f s=g s):x9 f l=x9 g l:=by
 have : ∀ (l:List CK) (a:Rat),(∀ s∈l,f s=g s)->l.foldl (λ a s=>a+f s) a=l.foldl (λ a s=>a+g s) a:=by
  intro l;induction l with
  | nil=>intro a _;rfl
  | cons s l ih =>
   intro a h;rw[List.foldl_cons,List.foldl_cons,h s List.mem_cons_self];exact ih _ λ x hx=>h x (List.mem_cons_of_mem _ hx)
 exact this l 0 h
theorem AiV (f g:CK->Rat) (l:List CK) (d:Rat):x9 f l+x9 g l/d=x9 (λ s=>f s+g s/d) l:=by
 have : ∀ (l:List CK) (a b c:Rat),a+b/d=c->l.foldl (λ a s=>a+f s) a+l.foldl (λ a s=>a+g s) b/d=l.foldl (λ a s=>a+(f s+g s/d)) c:=by
  intro l;induction l with
  | nil=>intro a b c h;exact h
  | cons s l ih =>
   intro a b c h;refine ih _ _ _ ?_;show a+f s+(b+g s)/d=c+(f s+g s/d);rw[<-h,Rat.div_def,Rat.div_def,Rat.div_def,Rat.add_mul];grind
 exact this l 0 0 0 (by rw[Rat.div_def,Rat.zero_mul,Rat.add_zero])
theorem yS {f:CK->Rat} {k:Nat} {l:List CK} (h : ∀ s∈l,Bt k (f s)):Bt (l.length*(k+1)) (x9 f l):=by
 have : ∀ (l:List CK) (a:Rat) (m:Nat),(∀ s∈l,Bt k (f s))->Bt m a->Bt (m+l.length*(k+1)) (l.foldl (λ a s=>a+f s) a):=by
  intro l;induction l with
  | nil=>intro a m _ h;simpa using h
  | cons s l ih =>
   intro a m h1 h2;have:=ih (a+f s) (m+k+1) (λ x hx=>h1 x (List.mem_cons_of_mem _ hx)) (h2.add (h1 s List.mem_cons_self))
   exact this.le (by rw[List.length_cons,Nat.succ_mul];omega)
 have:=this l 0 0 h (Bt.zero 0)
 rwa [Nat.zero_add]at this
def JD (n:Nt) (s:CK) (v:Nat):FE:=⟨aN n,s.b,E3 (FG n) v,s.g.getD v 0⟩
def IE (n:Nt) (p v:Nat):Rat:=EP (JD n (E8 n 0 1) v) p
def H3 (n:Nt) (p v:Nat):Rat:=x9 (λ s=>s.l*EP (JD n s v) p) (DM n n.nodes.length)
theorem Alb (S:FE) (p:Nat):0<=EP S p:=by
 have h1:=S5 S.d;have h2:=fS (f:=GV S.a S.b S.c) (λ j=>S5 _) (p+p);have h3:=fS (f:=λ j=>GE S.a S.b (p+j)) (λ j=>WO _) p;have h4:=Rat.mul_nonneg (eR S.c) h3;rw[EP];grind
theorem Aj3 (n:Nt) (p v:Nat):0<=IE n p v:=Alb _ _
end Go.c6

namespace Go.c6
set_option maxHeartbeats 2000000
theorem sE (f:Int):Rat.divInt 1 (pw f)=1/((pw f:Int):Rat):=by
 have h:((pw f:Int):Rat)≠0:=by
  intro e;have:pw f=0:=by exact_mod_cast e
  have:=E0 f
  omega
 rw[Rat.divInt_eq_div,show ((1:Int):Rat)=1 from rfl]
theorem wV (u:Rat) {ex:Int} (hx:ex<0) : ∀ (l:List (List (Int × Int))) (k:Nat) (vals:List Rat),F4 (1/u) ex k vals l=DW u (-1) k vals l
 | [],_,_=>rfl
 | ts::r,k,vals=>by
  rw[F4,DW,if_neg (by omega),if_neg (by omega),wV u hx r,Rat.add_zero];rw[Rat.div_def,Rat.div_def,Rat.one_mul]
theorem oD {vals:List Rat} (h : ∀ v∈vals,v=0) : ∀ ts,CD vals ts=0
 | []=>rfl
 | t::ts=>by
  have:vals.getD t.1.toNat 0=0:=by
   rw[List.getD_eq_getElem?_getD];cases e:vals[t.1.toNat]? with
   | none=>rfl
   | some x=>exact h x (zM e)
  rw[CD,oD h ts,this];grind
theorem kW (u:Rat) (k0:Nat) : ∀ (l:List (List (Int × Int))) (k:Nat) (vals:List Rat),(k<=k0 -> ∀ v∈vals,v=0)->F4 (1/u) (k0:Int) k vals l=DW u (k0:Int) k vals l
 | [],_,_,_=>rfl
 | ts::r,k,vals,h=>by
  rw[F4,DW];by_cases e:k=k0
  ·subst e
   rw[if_pos rfl,if_pos rfl,oD (h (Nat.le_refl _)),kW u k r (k+1) _ (λ h2=>absurd h2 (by omega))];rw[Rat.div_def,Rat.zero_mul,Rat.zero_add]
  ·rw[if_neg (by omega),if_neg (by omega),Rat.add_zero,show CD vals ts*(1/u)=CD vals ts/u by rw[Rat.div_def,Rat.div_def,Rat.one_mul]]
   refine kW u k0 r (k+1) _ λ h2 v hv => ?_
   have hz:=h (by omega);rcases List.mem_append.1 hv with hv|hv
   ·exact hz v hv
   ·rw[List.mem_singleton.1 hv,oD hz,Rat.div_def,Rat.zero_mul]
theorem Als {m:Nat} {p q:Int} (hp:p<0\/(m:Int)<=p) (hq:q<0\/(m:Int)<=q):B8 m p=B8 m q:=by
 simp only[B8];refine List.map_congr_left λ j hj => ?_
 have:=List.mem_range.1 hj
 rw[if_neg (by omega),if_neg (by omega)]
variable {n:Nt}
theorem wO (hb:DZ n=true) {j:Nat} (hj:j<=n.s.toNat):GY n j=FO n (j:Int) (-1):=by
 obtain ⟨_,_,⟨h0,_⟩,_⟩:=(C5 n).1 hb;rw[GY,FO,sE,wV _ (by omega),show (n.s+1).toNat=(1+n.s).toNat by omega]
theorem AhA (hb:DZ n=true) (k:Nat):GY n (1+n.s.toNat+k)=FO n (-1) (k:Int):=by
 obtain ⟨_,_,⟨h0,_⟩,_⟩:=(C5 n).1 hb;rw[GY,FO,sE,show ((1+n.s.toNat+k:Nat):Int)-(n.s+1)=(k:Int) by omega,show (n.s+1).toNat=(1+n.s).toNat by omega,Als (q := -1) (by omega) (by omega)];refine kW _ k _ 0 _ λ_ v hv => ?_
 simp only[B8,List.mem_map,List.mem_range]at hv;obtain ⟨i,_,rfl⟩:=hv;rw[if_neg (by omega)]
theorem iO (hb:DZ n=true) (e:Int):E3 (FG n) e.toNat=fA n e:=by
 rw[E3,FG,fA,List.map_map];refine List.map_congr_left λ j hj => ?_
 have:=List.mem_range.1 hj
 show (GY n (1+j)).getD e.toNat 0=_;rw[wO hb (by omega),show ((1+j:Nat):Int)=(j:Int)+1 by omega]
theorem wK (hb:DZ n=true) (e:Int):(GY n 0).getD e.toNat 0=gX n e:=by rw[wO hb (by omega)];rfl
theorem wJ (hb:DZ n=true) (k:Nat) (e:Int):(GY n (1+n.s.toNat+k)).getD e.toNat 0=gK n k e:=by rw[AhA hb];rfl
theorem RZ (hb:DZ n=true):aN n=n.next.map (fA n):=List.map_congr_left λ e _=>iO hb e
abbrev DR (n:Nt) (v:Nat):Nt:={ n with out:=(v:Int) }
theorem Ri (hb:DZ n=true) (v:Nat):JD n (E8 n 0 1) v=E7 (DR n v):=by
 have e1:aN n=(E7 (DR n v)).a:=RZ hb;have e2:(E8 n 0 1).b=(E7 (DR n v)).b:=List.map_congr_left λ e _=>wK hb e
 have e3:E3 (FG n) v=(E7 (DR n v)).c:=iO hb (v:Int);have e4:(E8 n 0 1).g.getD v 0=(E7 (DR n v)).d:=wK hb (v:Int);rw[JD,e1,e2,e3,e4]
theorem Rh (hb:DZ n=true) (k:Nat) (l:Rat) (v:Nat):JD n (E8 n (1+n.s.toNat+k) l) v=HE (DR n v) (k:Int):=by
 have e1:aN n=(HE (DR n v) (k:Int)).a:=RZ hb;have e2:(E8 n (1+n.s.toNat+k) l).b=(HE (DR n v) (k:Int)).b:=List.map_congr_left λ e _=>wJ hb k e
 have e3:E3 (FG n) v=(HE (DR n v) (k:Int)).c:=iO hb (v:Int);have e4:(E8 n (1+n.s.toNat+k) l).g.getD v 0=(HE (DR n v) (k:Int)).d:=wJ hb k (v:Int);rw[JD,e1,e2,e3,e4]
def GZ (n:Nt) (k:Nat):Rat:=match n.nodes[k]? with
 | some nd=>DY n nd
 | none=>0
theorem yB (k:Nat):0<=GZ n k:=by
 unfold GZ;cases n.nodes[k]? with
 | none=>exact Rat.le_refl
 | some nd=>exact (TJ n nd).2
theorem Mr (hb:DZ n=true) (p v:Nat) : ∀ K,x9 (λ s=>s.l*EP (JD n s v) p) (DM n K)=m6 (GZ n) (λ k=>EP (HE (DR n v) (k:Int)) p) K
 | 0=>rfl
 | K+1=>by
  rw[nT,m6,<-Mr hb p v K,W8,GZ];cases h:n.nodes[K]? with
  | none =>
   show x9 _ (DM n K++[])=_+0*_;rw[List.append_nil,Rat.zero_mul,Rat.add_zero]
  | some nd =>
   show x9 _ (DM n K++(if 0<DY n nd then some (E8 n (1+n.s.toNat+K) (DY n nd)) else none).toList)=_+DY n nd*_;by_cases hp:0<DY n nd
   ·rw[if_pos hp,Option.toList_some,yT,Rh hb];rfl
   ·have h0:DY n nd=0:=by have:=(TJ n nd).2;grind
    rw[if_neg hp,h0,Rat.zero_mul,Rat.add_zero,Option.toList_none,List.append_nil]
theorem Mq (hb:DZ n=true) (p v:Nat):H3 n p v=m6 (GZ n) (λ k=>EP (HE (DR n v) (k:Int)) p) n.nodes.length:=Mr hb p v _
theorem Oj (hb:DZ n=true) (p v:Nat):IE n p v=EP (E7 (DR n v)) p:=by rw[IE,Ri hb]
end Go.c6

namespace Go.c6
open F
set_option maxHeartbeats 8000000
variable {L:Lib}
def UA (M:Mem):Mem->Prop
 | []=>True
 | (k,s,c)::r=>c9 M k=some (s,c)/\UA M r
theorem UA.get {M:Mem} : ∀ {M0:Mem},UA M M0 -> ∀ k s c,c9 M0 k=some (s,c)->c9 M k=some (s,c)
 | [],_,_,_,_,e=>by cases e
 | (i,s0,c0)::r,h,k,s,c,e=>by
  simp only[c9]at e;cases hb:Nat.beq k i<;>simp only[hb,cond_true,cond_false]at e
  ·exact UA.get h.2 k s c e
  ·rw[BJ.1 hb,<-e];exact h.1
theorem JH.sub {σ:GN} {own:AJ} {M M0:Mem} (h:JH σ own M) (hm:UA M M0):JH σ own M0:=by
 have hr : ∀ k t c,c5 M0 k t=some c->c5 M k t=some c:=λ k t c e=>by
  obtain ⟨s,c0,g,_⟩:=I8 e;have g2:=hm.get k s c0 g;unfold c5 at e ⊢;rw[g]at e;rw[g2];exact e
 exact ⟨λ k s c e=>h.site k s c (hm.get k s c e),λ k t c e=>h.e8 k t c (hr k t c e),λ k t c e=>h.old k t c (hr k t c e),λ k t k' t' c c' e e'=>h.inj k t k' t' c c' (hr k t c e) (hr k' t' c' e'),λ k t c e=>h.low k t c (hr k t c e)⟩
theorem gG {f:Nat} {vs:List AV} {tm:Tm} {M:Mem} {K:AV->Mem->Prop} (h:A5 L f vs tm M λ r M' => ∃ M1,UA M' M1/\K r M1):A5 L f vs tm M K:=by
 intro σ own hs;obtain ⟨r,l8,σ',M',h1,h2,h3,M1,h4,h5⟩:=h σ own hs;exact ⟨r,l8,σ',M1,h1,h2.sub h4,h3,h5⟩
def dN (ks:List Nat):AV->Bool
 | .row k t _ _ _=>Nat.beq t 0&&KX k ks
 | .ptr k t _ _=>Nat.beq t 0&&KX k ks
 | _=>true
def ZH (ks:List Nat):List AV->Bool
 | []=>true
 | v::r=>dN ks v&&ZH ks r
def mL (ks:List Nat):AV->Bool
 | .agg cs=>ZH ks cs
 | .fn _ _ _ cs=>ZH ks cs
 | v=>dN ks v
def dO (ks:List Nat):List AV->Bool
 | []=>true
 | v::r=>mL ks v&&dO ks r
def mM (ks:List Nat):AV->Bool
 | .g8 vs=>dO ks vs
 | v=>mL ks v
def dP (ks:List Nat):Tm->Bool
 | []=>true
 | (_,v)::r=>mM ks v&&dP ks r
theorem yV {k:Nat} : ∀ {l:List Nat},KX k l=true->k∈l
 | [],h=>by cases h
 | j::r,h=>by
  simp only[KX]at h;cases hb:Nat.beq k j<;>simp only[hb,cond_true,cond_false]at h
  ·exact List.mem_cons_of_mem _ (yV h)
  ·rw[BJ.1 hb];exact List.mem_cons_self
section
variable {ks:List Nat} {σ σ':GN} (hs : ∀ k∈ks,σ' k 0=σ k 0)
include hs
theorem Z1 {v:AV} (h:dN ks v=true):A7 σ' v=A7 σ v:=by
 cases v<;>try rfl
 all_goals
  simp only[dN,Bool.and_eq_true]at h;have h1:=BJ.1 h.1;have h2:=hs _ (yV h.2);subst h1;simp only[A7,h2]
theorem nZ : ∀ {l:List AV},ZH ks l=true->l.map (A7 σ')=l.map (A7 σ)
 | [],_=>rfl
 | v::r,h=>by
  simp only[ZH,Bool.and_eq_true]at h;rw[List.map_cons,List.map_cons,Z1 hs h.1,nZ h.2]
theorem nX {v:AV} (h:mL ks v=true):BM σ' v=BM σ v:=by
 cases v with
 | agg cs=>simp only[BM];rw[nZ hs h]
 | fn p f g cs=>simp only[BM];rw[nZ hs h]
 | row k t z o n=>exact Z1 hs (v := .row k t z o n) h
 | ptr k t i j=>exact Z1 hs (v := .ptr k t i j) h
 | _=>rfl
theorem Ql : ∀ {l:List AV},dO ks l=true->l.map (BM σ')=l.map (BM σ)
 | [],_=>rfl
 | v::r,h=>by
  simp only[dO,Bool.and_eq_true]at h;rw[List.map_cons,List.map_cons,nX hs h.1,Ql h.2]
theorem AkT {v:AV} (h:mM ks v=true):BC σ' v=BC σ v:=by
 cases v with
 | g8 vs=>simp only[BC];rw[Ql hs h]
 | agg cs=>exact nX hs (v := .agg cs) h
 | fn p f g cs=>exact nX hs (v := .fn p f g cs) h
 | row k t z o n=>exact Z1 hs (v := .row k t z o n) h
 | ptr k t i j=>exact Z1 hs (v := .ptr k t i j) h
 | _=>rfl
end
theorem zZ {ks:List Nat} : ∀ {tm:Tm},dP ks tm=true -> ∀ j,mM ks (tg tm j)=true
 | [],_,_=>rfl
 | (i,v)::r,h,j=>by
  simp only[dP,Bool.and_eq_true]at h;simp only[tg];cases hb:Nat.beq j i<;>simp only[cond_true,cond_false]
  ·exact zZ h.2 j
  ·exact h.1
def aA:Nat->List Nat->Tm
 | _,[]=>[]
 | i,k::r=>(i,.ptr k 0 0 0)::aA (i+1) r
abbrev aB (ks:List Nat):Tm:=aA 0 ks
theorem Pl : ∀ {ks:List Nat} {i k:Nat},k∈ks -> ∃ j,i<=j/\tg (aA i ks) j = .ptr k 0 0 0
 | [],_,_,h=>by cases h
 | j::r,i,k,h=>by
  rcases List.mem_cons.1 h with rfl|e
  ·exact ⟨i,Nat.le_refl _,by simp [aA,tg]⟩
  ·obtain ⟨a,h1,h2⟩:=Pl (i:=i+1) e
   refine ⟨a,by omega,?_⟩;simp only[aA,tg];rw[GO.2 (show a≠i by omega),cond_false];exact h2
theorem XP {f:Nat} {vs:List AV} {tm:Tm} {M:Mem} {K:AV->Mem->Prop} (ks:List Nat) (M0:Mem) (hm:UA M M0) (ht:dP ks tm=true) (h:A5 L f vs (aB ks) M0 K):A5 L f vs tm M K:=by
 intro σ own hs;obtain ⟨r,l8,σ',M',h1,h2,h3,h4⟩:=h σ own (hs.sub hm);refine ⟨r,l8,σ',M',h1,h2,λ j => ?_,h4⟩;refine AkT (λ k hk => ?_) (zZ ht j);obtain ⟨j,_,hj⟩:=Pl (i:=0) hk;have:=h3 j
 rw[show tg (aB ks) j=_ from hj]at this;simp only[BC,BM,A7,AV.ptr.injEq]at this;exact Prod.ext this.1 this.2.1
abbrev KG (w:Bool) (P:CK->List (List Rat) × Rat) (s:CK):List AV :=
 .sl false (s.g.map eQ) :: .bool (decide (s.l.num<0)) :: .sl false ((dg s.l.num.natAbs).map AL) :: .sl false ((dg s.l.den).map AL)::(bif w then .sl true (R5 (P s).1)::JP true (P s).2 else [.nil,.bool false,.nil,.nil])
def KY (ss:List CK) (P:CK->List (List Rat) × Rat) (i:Nat):List (List AV):=(ss.take i).map (KG true P)++(ss.drop i).map (KG false P)
theorem Ai1 (ss:List CK) (P:CK->List (List Rat) × Rat):KY ss P 0=ss.map (KG false P):=by simp [KY]
theorem Ai0 (ss:List CK) (P:CK->List (List Rat) × Rat):KY ss P ss.length=ss.map (KG true P):=by simp [KY]
theorem Add {ss:List CK} {P:CK->List (List Rat) × Rat} {i:Nat} {s:CK} {K:List (List AV)->Prop} (hs:ss[i]? = some s) (hk:K (KY ss P (i+1))):A6 (KY ss P i) (0+((i:Int)).toNat) 4 (.sl true (R5 (P s).1)::JP true (P s).2) K:=by
 have hi:=(zS hs).1;have hl:((ss.take i).map (KG true P)).length=i:=by rw[List.length_map,List.length_take];omega
 have hg:(KY ss P i)[i]? = some (KG false P s):=by
  rw[KY,List.getElem?_append_right (by rw[hl];omega),hl,Nat.sub_self,List.getElem?_map,List.getElem?_drop,Nat.add_zero,hs];rfl
 rw[Nat.zero_add,Int.toNat_natCast];refine ⟨_,hg,Nat.le_refl 8,?_⟩;have:(KY ss P i).set i (splice (KG false P s) 4 (.sl true (R5 (P s).1)::JP true (P s).2))=KY ss P (i+1):=by
  have e1:splice (KG false P s) 4 (.sl true (R5 (P s).1)::JP true (P s).2)=KG true P s:=rfl;rw[e1,KY,KY,List.set_append_right _ _ (by rw[hl];omega),hl,Nat.sub_self,List.take_add_one,hs,List.map_append,List.append_assoc];congr 1;rw[List.drop_eq_getElem_cons hi,List.map_cons,List.set_cons_zero];have:ss[i]=s:=(zS hs).2
  rw[<-this];rfl
 rw[this];exact hk
def GT (S:Nat) (T:List (List Rat)) (i:Nat):List (Option (Nat × List (List AV))):=if S=0 then List.replicate T.length none else mz T T.length i
theorem Zq (S:Nat) (T:List (List Rat)):GT S T 0=List.replicate T.length none:=by
 unfold GT;split
 ·rfl
 ·exact mD T _
theorem Zl {S:Nat} {T:List (List Rat)} {i:Nat} (hi:i<=T.length):(GT S T i).length=T.length:=by
 unfold GT;split
 ·exact List.length_replicate
 ·exact mB hi
theorem Zn {S:Nat} {T:List (List Rat)} {i:Nat} (hi:i<T.length):(GT S T i)[i]? = some none:=by
 unfold GT;split
 ·rw[List.getElem?_replicate,if_pos hi]
 ·have hl:(EL 3 eQ (T.take i)).length=i:=by simp only[EL,List.length_map,List.length_take];omega
  have:=wI (z:=(none:Option (Nat × List (List AV)))) (l:=EL 3 eQ (T.take i)) (m:=T.length) (by omega)
  rw[hl]at this;exact this
theorem Zp {S:Nat} {T:List (List Rat)} {i:Nat} {r:List Rat} (h0:S≠0) (h:T[i]? = some r):(GT S T i).set i (some (3,r.map eQ))=GT S T (i+1):=by
 rw[GT,if_neg h0,GT,if_neg h0];exact mC h (zS h).1
theorem Zo {T:List (List Rat)} (i j:Nat):GT 0 T i=GT 0 T j:=by rw[GT,GT,if_pos rfl,if_pos rfl]
theorem Zk {S:Nat} {T:List (List Rat)} (h0:S≠0):GT S T T.length=EL 3 eQ T:=by rw[GT,if_neg h0];exact mA rfl
theorem Zm (T:List (List Rat)) (i:Nat):GT 0 T i=List.replicate T.length none:=by rw[GT,if_pos rfl]
theorem Mp (q:Bool) : ∀ n:Nat,RG q (List.replicate n none)=List.replicate n [.sl false []]
 | 0=>rfl
 | n+1=>by rw[List.replicate_succ,List.replicate_succ];simp only[RG];rw[Mp q n]
theorem Zs {q:Bool} {n off len:Nat} {K:List (List AV)->Prop} (ho:off=0) (hl:len=n) (h:K (List.replicate n [.sl false []])):CP q (List.replicate n none) off len K:=by
 refine ⟨ho,by rw[List.length_replicate];exact hl,λ z es hm => ?_,by rw[Mp];exact h⟩;have:=List.eq_of_mem_replicate hm
 cases this
theorem AfS (q:Bool) {T:List (List Rat)} (h : ∀ r∈T,r=[]):IB q T=List.replicate T.length [.sl q []]:=by
 refine List.eq_replicate_iff.2 ⟨by rw[List.length_map],λ x hx => ?_⟩;obtain ⟨r,hr,rfl⟩:=List.mem_map.1 hx;rw[h r hr];rfl
end Go.c6

namespace Go.c6
open F
attribute [local irreducible] AA AF AX AC CN AR BA A6 BV BH CM EI BO AY B0 CJ AB A5 AH pw CQ CE C8 EA DP BT CP BU C7
variable {L:Lib}
set_option maxHeartbeats 16000000
set_option maxRecDepth 8000
def aF (n:Nt) (sc:Nat) (X:Mem) (ks:List Nat):Prop:=(X=[(1,sc,.bx (CO n))]/\ks=[1])\/(X=[(2,sc,.bx (CO n))]/\ks=[2])\/X=[(3,sc,.bx (CO n)),(6,6,.bx [.bool false,.nil,.nil])]/\ks=[3,6]
abbrev yU (X:Mem) (S m:Nat) (n:Nt) (eng:List AV) (C:List (List Rat)) (row:List (List AV)):Mem :=
 X++[(356001,356001,.bx (CO n)),(356004,356004,.bx [.row 356017 0 1 0 S]),(356017,356017,.mx (EL 3 eQ C)),(356009,356009,.bx eng),(356011,356011,.bx [.row 356057 0 8 0 m]),(356057,356057,.rw 8 row)]
theorem Aea (N:n8 L) (n:Nt) (hn:CT n) (X:Mem) (ks:List Nat) (sc:Nat) (hX:aF n sc X ks) (R:List (List Rat)) (D U E:Rat) (p:Nat) (C:List (List Rat)) (ss:List CK) (P:CK->List (List Rat) × Rat) (hs : ∀ s∈ss,QR n s) (hm:ss.length<=6)
  (hE:E=HH (ss.map (·.b)).flatten) (vq:Bt 960000 E)
  (hW : ∀ s∈ss,Ev L 304 [.agg (IA false R D (p:Int) U),.sl false ((s.b.map (· * E)).map eQ)] (.agg (TB (P s).1 (P s).2))) (hP : ∀ s,(P s).1≠[]) (K:AV->Mem->Prop)
  (hK:K (.agg (eQ E)) (yU X n.s.toNat ss.length n (IA false R D (p:Int) U) C (ss.map (KG true P)))) :
  A5 L 355 [.agg (IA false R D (p:Int) U),.agg (CO n),.row 356057 0 8 0 ss.length] (aB (ks++[356001,356004,356009,356011,356057])) (yU X n.s.toNat ss.length n (IA false R D (p:Int) U) C (ss.map (KG false P))) K:=by
 obtain ⟨ew,oo⟩:=W0 hn;have k7:=hn.st;have rl:=hn.nl;obtain ⟨S,hS⟩ : ∃ S:Nat,n.s.toNat=S:=⟨_,rfl⟩;rw[hS]at ew oo;obtain ⟨T,hT⟩ : ∃ T:List (List Rat),T=ss.map (·.b):=⟨_,rfl⟩;have Fo:T.length=ss.length:=by rw[hT,List.length_map]
 have Ci : ∀ (i:Nat) (s:CK),ss[i]? = some s->T[i]? = some s.b:=λ i s h=>by rw[hT,List.getElem?_map,h];rfl
 have Tg : ∀ r∈T,r.length=S:=λ r hr=>by
  rw[hT]at hr;obtain ⟨s,h,rfl⟩:=List.mem_map.1 hr;rw[(hs s h).bl hn,hS]
 have Ip:Ms 40000 T:=λ r hr=>by
  rw[hT]at hr;obtain ⟨s,h,rfl⟩:=List.mem_map.1 hr;exact (hs s h).bb
 have lu:=λ q q'=>YP N.tom4 q q' T 40000 Ip (by rw[kK Tg,Fo];have:=Nat.mul_le_mul hm (show S<=4 by omega);omega) (by omega) (by omega)
 rw[<-hT]at hE;rw[<-hE]at lu;have Fp:=λ(s:CK) (po:s∈ss) (q:Bool)=>YQ N.tom4 q s.b E 40000 960000 (hs s po).bb vq (by omega) (by omega) (by have:=(hs s po).bl hn;omega)
 have jq : ∀ s∈ss,s.b.length=S:=λ s h=>by rw[(hs s h).bl hn,hS]
 have Jj : ∀ s∈ss,∀ (j:Nat) (v:Int),n.next[j]? = some v->s.b[j]? = some (s.g.getD v.toNat 0):=λ s h j v hv=>by
  rw[(hs s h).b,V2,List.getElem?_map,hv];rfl
 have yq : ∀ s∈ss,s.g.length=S+1+n.nodes.length:=λ s h=>by rw[(hs s h).gl,hS]
 have hmz:=Ai1 ss P;have hmf:=Ai0 ss P;rw[hS]at hK ⊢;refine gG ?_;unfold aF at hX;rcases hX with ⟨rfl,rfl⟩|⟨rfl,rfl⟩|⟨rfl,rfl⟩
 all_goals
  refine GK 1000 N.N4 rfl rfl ?_;(repeat' (apply AE<;>conv=>whnf))
  unfold DP;refine ⟨⟨by omega,by omega,by simp only[FI];omega,by omega⟩,?_⟩;rw[Int.toNat_natCast];(conv=>whnf)
  skip
  refine D8 (λ i=>ss.length-i) (λ(i:Nat)=>i<=ss.length) (λ i=>[(19,.int .i64 i)]) (λ i=>[(355016,355016,.mx (GT S T i))]) [] [] 0 (by rw[Zq,Fo];exact (by (conv=>whnf);exact ⟨rfl,rfl,rfl⟩)) (by omega) ?_;intro i p1 ih;have cg:=Zl (S:=S) (T:=T) (i:=i) (by omega);by_cases hi:i<ss.length
  ·obtain ⟨s,va⟩ : ∃ s,ss[i]? = some s:=⟨_,zE hi⟩
   have ct:=zM va;have pq:=Ci i s va;have At5:=jq s ct;have Aul:=yq s ct;have Cp:=Jj s ct;have gk:=Zn (S:=S) (T:=T) (i:=i) (by omega);have dz:=λ h0:S≠0=>Zp h0 pq
   have kp:S=0->GT S T i=GT S T (i+1):=λ h=>by subst h;exact Zo _ _
   generalize GT S T i=R0 at *;(repeat' ((first|(apply AG<;>intro hc<;>try omega)|(apply A2;omega)|apply AP|(refine T9 ?_ (λ_=>rfl) (λ v hv => ?_);omega)|apply AE)<;>conv=>whnf))
   cases va.symm.trans hv;skip
   rcases Nat.eq_zero_or_pos S with h0|h0
   ·have Lc:=kp h0
    refine GJ ?_;(repeat' ((first|(apply AG<;>intro hc<;>try omega)|(apply AQ;omega)|apply AE)<;>conv=>whnf))
    rw[Lc];exact BB [] (ih (i+1) (by omega) (by omega))
   ·have dz:=dz (by omega)
    have iq : ∀ j,j<S -> ∃ (v:Int) (x:Rat),n.next[j]? = some v/\n.next[(j:Int).toNat]? = some v/\0<=v/\s.g[v.toNat]? = some x/\s.b[j]? = some x:=λ j hj=>by
     obtain ⟨v,hv⟩ : ∃ v,n.next[j]? = some v:=⟨_,zE (by omega)⟩
     obtain ⟨h1,h2⟩:=oo v (zM hv);obtain ⟨x,hx⟩ : ∃ x,s.g[v.toNat]? = some x:=⟨_,zE (by omega)⟩;exact ⟨v,x,hv,hv,h1,hx,by rw[Cp j v hv,Y1 hx]⟩
    obtain ⟨v0,x0,q1,q2,q3,q4,q5⟩:=iq 0 h0;have ug:s.b.take 1=[x0]:=by rw[List.take_add_one,q5];rfl
    clear kp Cp;refine GJ ?_;(repeat' ((first|(apply AG<;>intro hc<;>try omega)|(apply A2;omega)|(refine A9 (by assumption) ?_ rfl ?_;omega)|apply AE)<;>conv=>whnf))
    refine aH (r:=none) (by rw[Nat.zero_add,Int.toNat_natCast];exact gk) ?_;(conv=>whnf)
    (repeat' ((first|(refine A9 (by assumption) ?_ rfl ?_;omega)|apply DQ)<;>conv=>whnf))
    refine SY (enc:=eQ) x0 rfl rfl (by omega) ?_;(conv=>whnf)
    (repeat' ((first|(apply A2;omega)|fail)<;>conv=>whnf))
    refine A2 rfl ?_;refine XZ (i:=i) (by omega) (by omega) ?_;(conv=>whnf)
    (repeat' ((first|(apply AQ;omega)|fail)<;>conv=>whnf))
    refine D8 (λ j=>S-j) (λ(j:Nat)=>1<=j/\j<=S) (λ j=>[(27,.int .i64 j)]) (λ j=>[(355016,355016,.mx (R0.set i (some (3,(s.b.take j).map eQ))))]) [] [] 1 (by first|exact (by (conv=>whnf);exact ⟨rfl,rfl,rfl⟩)|(rw[ug];exact (by (conv=>whnf);exact ⟨rfl,rfl,rfl⟩))) (by omega) ?_;intro j ⟨r1,r2⟩ jh;by_cases hj:j<S
    ·obtain ⟨v1,x1,e1,e2,e3,e4,e5⟩:=iq j hj
     have k7:=I0 e5;have htj:(s.b.take j).length=j:=by rw[List.length_take];omega
     have zp:(s.b.take (j+1)).length=j+1:=by rw[List.length_take];omega
     generalize s.b.take j=W at *;(repeat' ((first|(apply AG<;>intro hc<;>try omega)|(apply A2;omega)|(refine A9 (by assumption) ?_ rfl ?_;omega)|apply AE)<;>conv=>whnf))
     refine pH (by omega) (by omega) ?_;(conv=>whnf)
     (repeat' ((first|(refine A9 (by assumption) ?_ rfl ?_;omega)|apply DQ)<;>conv=>whnf))
     refine pG (by omega) (by omega) ?_;(conv=>whnf)
     refine FA (enc:=eQ) x1 rfl (by rw[List.length_map]) rfl (by omega) (by omega) ?_;intro s' v;rw[<-k7,zp];(conv=>whnf)
     (repeat' ((first|(apply A2;omega)|fail)<;>conv=>whnf))
     refine A2 ⟨rfl,by rw[List.length_map];omega⟩ ?_;refine XZ (i:=i) (by omega) (by rw[List.length_set,List.length_set];omega) ?_;rw[show 0+((i:Int)).toNat=i by omega,List.set_set,List.set_set];(conv=>whnf)
     (repeat' ((first|(apply AQ;omega)|fail)<;>conv=>whnf))
     exact BB [] (jh (j+1) (by omega) (by omega))
    have ej:j=S:=by omega
    clear jh;rw[ej,zT (by omega),dz];(repeat' ((first|(apply AG<;>intro hc<;>try omega)|(apply AQ;omega)|apply AE)<;>conv=>whnf))
    exact BB [] (ih (i+1) (by omega) (by omega))
  have ei:i=T.length:=by omega
  clear ih cg;rw[ei];rcases Nat.eq_zero_or_pos S with h0|h0
  focus
   have hTe : ∀ r∈T,r=[]:=λ r hr=>List.length_eq_zero_iff.1 ((Tg r hr).trans h0)
   have oe : ∀ q,Ev L 295 [.sl q (List.replicate T.length [.sl false []])] (.agg (eQ E)):=λ q=>by
    have:=lu q false
    rwa [AfS false hTe]at this
   rw[show GT S T T.length=List.replicate T.length none by rw[h0,Zm]];(repeat' ((first|(apply AG<;>intro hc<;>try omega)|apply AE)<;>conv=>whnf))
   refine Zs rfl (by omega) ?_;(conv=>whnf)
   (repeat' (refine AD (oe _) ?_<;>conv=>whnf))
  rotate_left
  focus
   rw[Zk (by omega)];(repeat' ((first|(apply AG<;>intro hc<;>try omega)|apply AE)<;>conv=>whnf))
   refine QQ (λ_=>rfl) rfl Fo.symm ?_;(conv=>whnf)
   (repeat' (refine AD (lu _ _) ?_<;>conv=>whnf))
  all_goals
   refine D8 (λ i=>ss.length-i) (λ(i:Nat)=>i<=ss.length) (λ i=>[(51,.int .i64 i)]) (λ i=>[(356057,356057,.rw 8 (KY ss P i))]) [] [] 0 (by rw[hmz];exact (by (conv=>whnf);exact ⟨rfl,rfl,rfl⟩)) (by omega) ?_;intro i p1 ih;by_cases hi:i<ss.length
   ·obtain ⟨s,va⟩ : ∃ s,ss[i]? = some s:=⟨_,zE hi⟩
    have ct:=zM va;have pq:=Ci i s va;have hW':=hW s ct;have hP':=hP s;have Dl:=yP (P s).1 (P s).2;have Ga:=Ny (T:=(P s).2) hP';have ya:=Fp s ct;have ku:=λ(K:List (List AV)->Prop)=>Add (P:=P) (K:=K) va
    first
    |(have hbe:s.b=[]:=List.length_eq_zero_iff.1 ((jq s ct).trans (by omega))
      rw[hbe]at hW' ya;have hTn : ∀ q,Ev L 296 [.sl q [],.agg (eQ E)] (.sl false ((([]:List Rat).map (· * E)).map eQ)):=ya;(repeat' ((first|(apply AG<;>intro hc<;>try omega)|(apply A2;omega)|apply AE)<;>conv=>whnf))
      refine aH (r:=none) (by rw[Nat.zero_add,Int.toNat_natCast,List.getElem?_replicate,if_pos (by omega)]) ?_;(conv=>whnf)
      (repeat' ((first|refine AD (hTn _) ?_|refine AD (hW') ?_)<;>conv=>whnf)))
    |((repeat' ((first|(apply AG<;>intro hc<;>try omega)|(apply A2;omega)|(refine CZ (λ_=>rfl) rfl ?_ ?_;(first|rfl|simp))|(refine Xc ?_ (λ r hr => ?_);omega)|refine Wy (by assumption) ?_|apply AE)<;>conv=>whnf))
      cases pq.symm.trans hr;(repeat' ((first|refine AD (ya _) ?_|refine AD (hW') ?_)<;>conv=>whnf)))
    refine pB Ga trivial ?_;rw[Dl];(conv=>whnf)
    refine A2 (by omega) ?_;(conv=>whnf)
    refine ku _ ?_;(conv=>whnf)
    (repeat' ((first|(apply AQ;omega)|fail)<;>conv=>whnf))
    exact BB [] (ih (i+1) (by omega) (by omega))
   have ei:i=ss.length:=by omega
   clear ih;rw[ei,hmf];(repeat' ((first|(apply AG<;>intro hc<;>try omega)|apply AE)<;>conv=>whnf))
   refine ⟨rfl,?_⟩;(conv=>whnf)
   refine ⟨_,?_,hK⟩;first|exact ⟨rfl,rfl,rfl,rfl,rfl,rfl,rfl,trivial⟩|exact ⟨rfl,rfl,rfl,rfl,rfl,rfl,rfl,rfl,trivial⟩
def IV (n:Nt) (p:Nat) (D E:Rat) (s:CK):List (List Rat) × Rat:=((List.range (p+p)).map (DD (aN n) s.b D E),ET D (λ m=>CG (DD (aN n) s.b D E (p+m))) p)
theorem AjN {n:Nt} {p:Nat} (hp:1<=p) (D E:Rat) (s:CK):(IV n p D E s).1≠[]:=by
 intro e;have:=congrArg List.length e
 simp [IV]at this;omega
theorem Akz {x:Rat} (h:0<x):0<o9 x.num:=by
 have:=(P8 (x:=x) (y:=0)).2 h
 rwa [Rat.sub_eq_add_neg,Rat.neg_zero,Rat.add_zero]at this
theorem Aky {x:Rat} (h : ¬ 0<x):o9 x.num<=0:=by
 refine Int.not_lt.1 λ h2=>h ((P8 (x:=x) (y:=0)).1 ?_)
 rwa [Rat.sub_eq_add_neg,Rat.neg_zero,Rat.add_zero]
abbrev ZA (n:Nt) (p:Nat) (D E:Rat):Mem :=
 [(356004,356004,.bx [.row 356017 0 1 0 n.s.toNat]),(356017,356017,.mx (EL 3 eQ (FG n))),(356009,356009,.bx (IA false (B9 D (aN n)) D (p:Int) (D^(p+p-1)))),(356014,356014,.bx (eQ E)),(356011,356011,.bx [.row 356057 0 8 0 (q8 n).length]),(356057,356057,.rw 8 ((q8 n).map (KG true (IV n p D E))))]
theorem qO (I:c7 L) (N:n8 L) (n:Nt) (hn:CT n) (X:Mem) (ks:List Nat) (sc:Nat) (hX:aF n sc X ks) (K:AV->Mem->Prop)
  (h1 : ∀ i,i<=6->HA n.s.toNat (aN n) i->K (.g8 [.fn false 354 (L.num 354) [.ptr 356004 0 0 0,.ptr 356009 0 0 0,.ptr 356014 0 0 0,.ptr 356011 0 0 0],.int .i64 0]) (X++ZA n (2^i) (HH (aN n).flatten) (YA n)))
  (h2:(∀ j,j<=6->DJ (B2 n.s.toNat (aN n) j)=false)->K (.g8 [.aj .nilFunc,.int .i64 14]) X) :
  A5 L 356 [.agg (CO n)] (aB ks) X K:=by
 obtain ⟨ew,oo⟩:=W0 hn;have k7:=hn.st;have rl:=hn.nl;have ur:=(C5 n).1 hn.aw;obtain ⟨_,_,⟨nz,_⟩,_⟩:=ur;obtain ⟨S,hS⟩ : ∃ S:Nat,n.s=(S:Int):=⟨n.s.toNat,by omega⟩;have jz:n.s.toNat=S:=by omega
 have Sj : ∀ j:Nat,j<S->KQ L 351 [.agg (CO n),.int .i64 (1+(j:Int))] 3 ((GY n (1+j)).map eQ):=λ j hj=>by
  have:=Ags N n (1+j) hn (by omega)
  rwa [show ((1+j:Nat):Int)=1+(j:Int) by omega]at this
 have Ib:Ev L 351 [.agg (CO n),.int .i64 0] (.sl false ((GY n 0).map eQ)):=tZ N n 0 hn (by omega);have hGk : ∀ k:Nat,k<n.nodes.length->Ev L 351 [.agg (CO n),.int .i64 (1+n.s+(k:Int))] (.sl false ((GY n (1+S+k)).map eQ)):=λ k hk=>by
  have:=tZ N n (1+S+k) hn (by omega)
  rwa [show ((1+S+k:Nat):Int)=1+n.s+(k:Int) by omega]at this
 have yq:=cT hn;rw[jz]at yq;have pf:=HN N.toa7 1 (by omega);rw[show ((1:Int):Rat)=1 from rfl]at pf;have n6:=bR n;rw[jz]at n6;have Cs:=λ(j:Nat) (hj:j<S)=>Aey (n:=n) (j:=j) (by omega)
 obtain ⟨v,ud,hv⟩:=uR N.tom4 true false (aN n) S 40000 (by have:=QT hn;rwa [jz]at this) (aW hn) (by omega) (by omega);have Fl:=λ(v:Nat) (hv:v<S+1+n.nodes.length) (q q':Bool)=>uQ N q q' (FG n) v (by omega) (λ c hc=>by have:=rO hn c hc;omega)
 rw[jz]at h1 h2 oo ew;have bp:(aN n).length=S:=by rw[(QT hn).l,jz]
 have Gv:=QT hn;rw[jz]at Gv;obtain ⟨D,E,nq,kg,Bv,Hv,qi,vq,Ht,fe⟩:=Ng hn;generalize hC:FG n=C at *;have uk:=λ p hW hP K hK=>Aea N n hn X ks sc hX (B9 (D:Rat) (aN n)) (D:Rat) ((D:Rat)^(p+p-1)) (E:Rat) p C (q8 n) (IV n p D E) (XA hn) (Mk hn).2 kg.symm vq hW hP K hK
 rw[jz]at uk;refine gG ?_;unfold aF at hX;rcases hX with ⟨rfl,rfl⟩|⟨rfl,rfl⟩|⟨rfl,rfl⟩
 all_goals
  refine HR 1000 N.NW rfl rfl ?_;(repeat' (apply AE<;>conv=>whnf))
  unfold DP;refine ⟨⟨by omega,by omega,by simp only[FI];omega,by omega⟩,?_⟩;rw[jz];(conv=>whnf)
  skip
  refine D8 (λ i=>S-i) (λ(i:Nat)=>i<=S) (λ i=>[(20,.int .i64 i)]) (λ i=>[(356017,356017,.mx (mz C S i))]) [] [] 0 (by rw[mD];exact (by (conv=>whnf);exact ⟨rfl,rfl,rfl⟩)) (by omega) ?_;intro i p1 ih;have vh:=mB (Q:=C) p1;by_cases hi:i<S
  ·have k7:=mC (Cs i hi) hi
   have hG:=Sj i hi;generalize mz C S i=R0 at *;(repeat' ((first|(apply AG<;>intro hc<;>try omega)|(apply AQ;omega)|apply AE)<;>conv=>whnf))
   refine TY (enc:=eQ) (S+1+n.nodes.length) hG (yq _).symm ?_;(conv=>whnf)
   (repeat' ((first|(apply A2;omega)|fail)<;>conv=>whnf))
   refine A2 (by rw[List.length_map,yq]) ?_;refine XZ (i:=i) (by omega) (by omega) ?_;rw[k7];(conv=>whnf)
   (repeat' ((first|(apply AQ;omega)|fail)<;>conv=>whnf))
   exact BB [] (ih (i+1) (by omega) (by omega))
  have ei:i=S:=by omega
  clear ih;rw[ei,mA (by omega)];(repeat' ((first|(apply AG<;>intro hc<;>try omega)|apply AP|apply AE)<;>conv=>whnf))
  refine D8 (λ j=>S-j) (λ(j:Nat)=>j<=S) (λ j=>[(34,.int .i64 j),(6,.row 356006 0 1 0 j)]) (λ j=>[(356006,356006,.rw 1 (((aN n).take j).map λ r=>[AV.sl false (r.map eQ)]))]) [] [] 0 (by rw[List.take_zero];exact (by (conv=>whnf);exact ⟨rfl,rfl,rfl⟩)) (by omega) ?_;intro j r1 jh;by_cases hj:j<S
  ·obtain ⟨w,hw⟩ : ∃ w:Nat,n.next[j]? = some (w:Int):=by
    obtain ⟨v,hv⟩ : ∃ v,n.next[j]? = some v:=⟨_,zE (by omega)⟩
    have:=(oo v (zM hv)).1
    exact ⟨v.toNat,by rw[hv];congr 1;omega⟩
   have Up:n.next[(j:Int).toNat]? = some (w:Int):=hw
   have hwl:=(oo w (zM hw)).2;have hR:=Fl w (by omega);have haj:(aN n)[j]? = some (E3 C w):=by rw[aN,List.getElem?_map,hw,hC];rfl
   have fk:((aN n).take j).length=j:=by rw[List.length_take];omega
   have Li:((aN n).take (j+1)).length=j+1:=by rw[List.length_take];omega
   have dd:=I0 haj;generalize (aN n).take j=W at *;(repeat' ((first|(apply AG<;>intro hc<;>try omega)|(refine A9 (by assumption) ?_ rfl ?_;omega)|apply AE)<;>conv=>whnf))
   refine QQ (λ_=>rfl) rfl n6.symm ?_;(conv=>whnf)
   (repeat' ((first|apply DQ|refine AD (hR _ _) ?_)<;>conv=>whnf))
   refine FA (l:=W) (z:=1) (bytes:=24) (enc:=λ r:List Rat=>[AV.sl false (r.map eQ)]) (E3 C w) rfl fk.symm rfl (by omega) (by omega) ?_;(conv=>whnf)
   rw[<-dd,Li];(repeat' ((first|(apply AQ;omega)|fail)<;>conv=>whnf))
   exact BB [(356006,356043)] (jh (j+1) (by omega) (by omega))
  have ej:j=S:=by omega
  clear jh;rw[ej,zT (by omega)];(repeat' ((first|(apply AG<;>intro hc<;>try omega)|apply AE)<;>conv=>whnf))
  refine CZ (enc:=λ r:List Rat=>[AV.sl false (r.map eQ)]) (λ_=>rfl) rfl bp.symm ?_;(conv=>whnf)
  rcases hv with ⟨i,i1,i2,rfl⟩|⟨gk,rfl⟩
  ·obtain ⟨g1,_,g3⟩:=RE i1
   have nj:=h1 i i1 i2;clear h1 h2 Fl Sj Cs;rw[nq]at ud nj;rw[kg]at nj;generalize 2^i=p at *;(repeat' ((first|(apply AG<;>intro hc<;>try omega)|apply AP|refine AD (ud) ?_|refine AD (Ib) ?_|refine AD (pf) ?_)<;>conv=>whnf))
   have hWk : ∀ s∈q8 n,Ev L 304 [.agg (IA false (B9 (D:Rat) (aN n)) (D:Rat) (p:Int) ((D:Rat)^(p+p-1))),.sl false ((s.b.map (· * (E:Rat))).map eQ)] (.agg (TB (IV n p D E s).1 (IV n p D E s).2)):=λ s hs=>by
    have:=uT N.tom4 false (B9 (D:Rat) (aN n)) (D:Rat) ((D:Rat)^(p+p-1)) (DD (aN n) s.b D E) S p 680000 640000 90000000 (nJ _ Gv) Ht qi (fe s hs) (λ j=>by rw[DD,List.length_map,XJ bp ((XA hn s hs).bl hn |>.trans jz)]) (gB _ _ _ _) (by omega) ⟨g3,g1⟩ (by omega) (by omega) (by omega)
    rwa [gC]at this
   have Il:=AjN (n:=n) g3 (D:Rat) (E:Rat);refine D4 (λ k=>n.nodes.length-k) (λ(k:Nat)=>k<=n.nodes.length) (λ k=>[(61,.int .i64 k)]) (λ k=>[(356011,356011,.bx [.row 356057 0 8 0 (E8 n 0 1::DM n k).length]),(356057,356057,.rw 8 ((E8 n 0 1::DM n k).map (KG false (IV n p D E))))]) 0 (by omega) ?_;intro k k1 kh;have fk:=fK n k;have dd:=nT n k;by_cases hk:k<n.nodes.length
   ·obtain ⟨nd,hnd⟩ : ∃ nd,n.nodes[k]? = some nd:=⟨_,zE hk⟩
    have uq:n.nodes[(k:Int).toNat]? = some nd:=hnd;have Fg:=AgA N n hn k nd hnd;have Ce:=WE N.toa7 (TJ n nd).1 (by omega);have hgk:=hGk k hk;rw[W8,hnd]at dd;by_cases hp:0<DY n nd
    ·have ou:=Akz hp
     simp only[if_pos hp,Option.toList_some]at dd;generalize Tv:E8 n 0 1::DM n k=ls at *;have dj:(E8 n 0 1::DM n (k+1))=ls++[E8 n (1+n.s.toNat+k) (DY n nd)]:=by rw[dd,<-Tv];rfl
     have rh:ls.length<=6:=by rw[<-Tv,List.length_cons];omega
     have du:(E8 n 0 1::DM n (k+1)).length=ls.length+1:=by rw[dj,List.length_append];rfl
     (repeat' ((first|(apply AG<;>intro hc<;>try omega)|(apply AQ;omega)|apply DQ|apply AE|refine AD (Fg) ?_|refine AD (Ce) ?_|refine AD (hgk) ?_)<;>conv=>whnf))
     refine FA (l:=ls) (z:=8) (bytes:=160) (enc:=KG false (IV n p D E)) (E8 n (1+n.s.toNat+k) (DY n nd)) (by rw[jz];rfl) rfl rfl (by omega) (by omega) ?_;(conv=>whnf)
     rw[<-dj];(repeat' ((first|(apply AQ;omega)|fail)<;>conv=>whnf))
     exact BB [(356057,356081)] (kh (k+1) (by omega) (by omega))
    ·have ou:=Aky hp
     simp only[if_neg hp,Option.toList_none,List.append_nil]at dd;(repeat' ((first|(apply AG<;>intro hc<;>try omega)|(apply AQ;omega)|apply AE|refine AD (Fg) ?_|refine AD (Ce) ?_)<;>conv=>whnf))
     rw[<-dd];exact BB [] (kh (k+1) (by omega) (by omega))
   have ek:k=n.nodes.length:=by omega
   clear kh;rw[ek,show E8 n 0 1::DM n n.nodes.length=q8 n from rfl];have uk:=λ K hK=>uk p hWk Il K hK
   unfold ZA at nj;rw[jz,hC]at nj;(repeat' ((first|(apply AG<;>intro hc<;>try omega)|apply AE)<;>conv=>whnf))
   refine XP _ _ ?_ ?_ (uk _ ?_)
   ·first|exact ⟨rfl,rfl,rfl,rfl,rfl,rfl,rfl,trivial⟩|exact ⟨rfl,rfl,rfl,rfl,rfl,rfl,rfl,rfl,trivial⟩
   ·rfl
   (conv=>whnf)
   skip
   refine ⟨rfl,_,rfl,?_⟩;(conv=>whnf)
   refine ⟨_,?_,nj⟩;first|exact ⟨rfl,rfl,rfl,rfl,rfl,rfl,rfl,trivial⟩|exact ⟨rfl,rfl,rfl,rfl,rfl,rfl,rfl,rfl,trivial⟩
  ·(repeat' ((first|(apply AG<;>intro hc<;>try omega)|refine AD (ud) ?_)<;>conv=>whnf))
   refine ⟨rfl,_,rfl,?_⟩;(conv=>whnf)
   refine ⟨_,?_,h2 gk⟩;first|exact ⟨rfl,trivial⟩|exact ⟨rfl,rfl,trivial⟩
def I7 (n:Nt) (p:Nat) (D E:Rat) (cO:List Rat) (s:CK):Rat:=ET D (λ j=>A4 (A3 cO (DD (aN n) s.b D E j))) (p+p)+BF cO*(IV n p D E s).2
theorem Ahz {n:Nt} {p v:Nat} {D E O:Rat} (hp:1<=p) (hD:0<D) (hE:0<E) (hO:0<O) (s:CK) :
  s.l*A4 (s.g.getD v 0)+s.l*I7 n p D E ((E3 (FG n) v).map (· * O)) s/(D^(p+p-1)*(E*O))=s.l*EP (JD n s v) p:=by
 have:=Re (S:=JD n s v) hp hD hE hO
 have e:I7 n p D E ((E3 (FG n) v).map (· * O)) s/(D^(p+p-1)*(E*O))=B4 (GV (JD n s v).a (JD n s v).b (JD n s v).c) (p+p)+BF (JD n s v).c*B4 (λ j=>GE (JD n s v).a (JD n s v).b (p+j)) p:=this;rw[show s.l*I7 n p D E ((E3 (FG n) v).map (· * O)) s/(D^(p+p-1)*(E*O))=s.l*(I7 n p D E ((E3 (FG n) v).map (· * O)) s/(D^(p+p-1)*(E*O))) by rw[Rat.div_def,Rat.div_def,Rat.mul_assoc],e,<-Rat.mul_add,EP];rfl
theorem qP (N:n8 L) (n:Nt) (hn:CT n) (i:Nat) (hi:i<=6) (w:Nat) (hv:w<n.s.toNat+1+n.nodes.length) (X:Mem) (ks:List Nat) (s1:Nat) (h:Rat) (hX:(X=[(1,s1,.bx (CO n))]/\ks=[1])\/(X=[(1,s1,.bx (CO n)),(6,6,.bx (eQ h))]/\ks=[1,6])\/X=[(3,s1,.bx (CO n)),(6,6,.bx [.bool false,.nil,.nil])]/\ks=[3,6]) (K:AV->Mem->Prop)
  (hK:Bt 400000000000 (IE n (2^i) w)->Bt 400000000000 (H3 n (2^i) w)->K (.agg (eQ (IE n (2^i) w)++eQ (H3 n (2^i) w))) (X++ZA n (2^i) (HH (aN n).flatten) (YA n))) :
  A5 L 354 [.int .i64 (w:Int),.ptr 356004 0 0 0,.ptr 356009 0 0 0,.ptr 356014 0 0 0,.ptr 356011 0 0 0] (aB (ks++[356004,356009,356014,356011])) (X++ZA n (2^i) (HH (aN n).flatten) (YA n)) K:=by
 have k7:=hn.st;have rl:=hn.nl;obtain ⟨_,_,⟨nz,_⟩,_⟩:=(C5 n).1 hn.aw;obtain ⟨S,hS⟩ : ∃ S:Nat,n.s.toNat=S:=⟨_,rfl⟩;obtain ⟨g1,_,g3⟩:=RE hi;obtain ⟨D,E,nq,kg,Bv,Hv,qi,vq,Ht,fe⟩:=Ng hn;have yq:=cT hn;have Fl:=λ(q q':Bool)=>uQ N q q' (FG n) w (by rw[bR];omega) (λ c hc=>by have:=rO hn c hc;omega)
 have n6:=bR n;have vy:=mZ n w;have ke:=mY hn w;have oe:=λ q=>YP N.tom4 q false [E3 (FG n) w] 40000 (λ r hr=>by obtain rfl:=List.mem_singleton.1 hr;exact ke) (by rw[YZ];omega) (by simp) (by omega)
 rw[YZ]at oe;obtain ⟨O,Bo,o1,o2,o3⟩:=Y7 vy ke;have bO:Bt 160000 (O:Rat):=(U5 o2).le (by have:=zR 40000 (show n.s.toNat<=4 by omega);omega);have Fx:Bs 200000 ((E3 (FG n) w).map (· * (O:Rat))):=λ x hx=>((o3 x hx).le (by have:=zR 40000 (show n.s.toNat<=4 by omega);omega)).bt
 have hval:=λ s=>Ahz (n:=n) (p:=2^i) (v:=w) g3 (RC Bv) (RC Hv) (RC o1) s
 have El:IE n (2^i) w=(0+(E8 n 0 1).l*A4 ((E8 n 0 1).g.getD w 0))+(0+(E8 n 0 1).l*I7 n (2^i) D E ((E3 (FG n) w).map (· * (O:Rat))) (E8 n 0 1))/((D:Rat)^(2^i+2^i-1)*((E:Rat)*(O:Rat))):=by
  have:=hval (E8 n 0 1)
  rw[Rat.zero_add,Rat.zero_add,this,show (E8 n 0 1).l=1 from rfl,Rat.one_mul];rfl
 have de:H3 n (2^i) w=x9 (λ s=>s.l*A4 (s.g.getD w 0)) (DM n n.nodes.length)+x9 (λ s=>s.l*I7 n (2^i) D E ((E3 (FG n) w).map (· * (O:Rat))) s) (DM n n.nodes.length)/((D:Rat)^(2^i+2^i-1)*((E:Rat)*(O:Rat))):=by
  rw[AiV];exact AiU λ s _=>(hval s).symm
 have Tz:=RC Bv;have Ua:=RC Hv;have Ub:=RC o1;rw[nq,kg]at hK ⊢;rw[Bo]at oe;clear Bo nq kg o1 o2 o3 hval;generalize hp:2^i=p at *;generalize (D:Rat)=D at *;generalize (E:Rat)=E at *;generalize (O:Rat)=O at *;have Iq:=λ q=>YQ N.tom4 q (E3 (FG n) w) O 40000 160000 ke bO (by omega) (by omega) (by omega)
 have Jl:((E3 (FG n) w).map (· * O)).length=S:=by rw[List.length_map,vy,hS]
 generalize hcd:(E3 (FG n) w).map (· * O)=cO at *;have v7 : ∀ s∈q8 n,Bt 60000000000 (I7 n p D E cO s)/\Bt 6000000000 (IV n p D E s).2:=λ s hs=>by
  have q1 : ∀ j,j<p+p->Bt (4*(200000+90000000+1)) (A4 (A3 cO (DD (aN n) s.b D E j))):=λ j hj=>HU ((Fx.dot (fe s hs j (by omega))).le (zR _ (by omega)))
  have q2:=(UY qi (p+p) q1).le (zR _ (show p+p<=128 by omega));have q3:Bt (4*(200000+1)) (BF cO):=(RJ Fx).le (zR _ (by omega));have q4:Bt 6000000000 (IV n p D E s).2:=(UY qi p λ j hj=>Q9 (fe s hs (p+j) (by omega))).le (by
   have:=zR (640000+90000000+1) g1
   omega)
  exact ⟨(q2.add (q3.mul q4)).le (by omega),q4⟩
 have Sl : ∀ s∈q8 n,∀ q,Ev L 305 [.agg (IA false (B9 D (aN n)) D (p:Int) (D^(p+p-1))),.sl q (cO.map eQ),.agg (.sl true (R5 (IV n p D E s).1)::JP true (IV n p D E s).2)] (.agg (eQ (I7 n p D E cO s))):=λ s hs q =>
  uP N.tom4 false q (B9 D (aN n)) D (IV n p D E s).2 (D^(p+p-1)) (p:Int) cO (DD (aN n) s.b D E) S (p+p) 640000 200000 90000000 6000000000 qi Fx Jl (fe s hs) (λ j=>by rw[DD,List.length_map,XJ (QT hn).l ((XA hn s hs).bl hn),hS]) (v7 s hs).2 (by omega) (by omega) (by omega) (by omega) (by omega) (by omega)
 have jg:=XA hn;have La : ∀ s∈DM n n.nodes.length,s∈q8 n:=λ s hs=>List.mem_cons_of_mem _ hs
 have Fo:=fK n n.nodes.length;have jq:Bt 82000000 (D^(p+p-1)):=(dT qi _).le (by
  have:=zR 640000 (show p+p-1<=127 by omega)
  omega)
 have fp:=I6 N.toa7 vq bO (by omega) (by omega);have il:=I6 N.toa7 jq (vq.mul bO) (by omega) (by omega);have ui:Bt 84000000 (D^(p+p-1)*(E*O)):=(jq.mul (vq.mul bO)).le (by omega);have l9:D^(p+p-1)*(E*O)≠0:=by
  have zh : ∀ j:Nat,0<D^j:=λ j=>by
   induction j with
   | zero=>rw[Rat.pow_zero];decide
   | succ j ih=>rw[Rat.pow_succ];exact Rat.mul_pos ih Tz
  have:=Rat.mul_pos (zh (p+p-1)) (Rat.mul_pos Ua Ub)
  grind
 have pe:=HN N.toa7 0 (by omega);rw[show ((0:Int):Rat)=0 from rfl]at pe;have hx : ∀ s∈q8 n,s.g[((w:Nat):Int).toNat]? = some (s.g.getD w 0):=λ s hs=>by
  have h1:=(jg s hs).gl;obtain ⟨x,hx⟩ : ∃ x,s.g[w]? = some x:=⟨_,zE (by omega)⟩;rw[Y1 hx];exact hx
 have Fb:=λ(s:CK) (hs:s∈q8 n)=>YK N.toy6 (WL (jg s hs).gb w) (by omega)
 have Sw:=λ(s:CK) (hs:s∈q8 n)=>I6 N.toa7 (jg s hs).lb (HU (WL (jg s hs).gb w)) (by omega) (by omega)
 have Sv:=λ(s:CK) (hs:s∈q8 n)=>I6 N.toa7 (jg s hs).lb (v7 s hs).1 (by omega) (by omega)
 have ql : ∀ s∈q8 n,Bt 40001 (s.l*A4 (s.g.getD w 0)):=λ s hs=>((jg s hs).lb.mul (HU (WL (jg s hs).gb w))).le (by omega)
 have Cq : ∀ s∈q8 n,Bt 60000000001 (s.l*I7 n p D E cO s):=λ s hs=>((jg s hs).lb.mul (v7 s hs).1).le (by omega)
 have Bp:=λ(s:CK) (hs:s∈q8 n)=>JQ N.toa7 (Bt.zero 1) (ql s hs) (by omega) (by omega)
 have Br:=λ(s:CK) (hs:s∈q8 n)=>JQ N.toa7 (Bt.zero 1) (Cq s hs) (by omega) (by omega)
 have Ai : ∀ t,Bt 300000 (x9 (λ s=>s.l*A4 (s.g.getD w 0)) ((DM n n.nodes.length).take t)):=λ t=>(yS λ s hs=>ql s (La s (List.mem_of_mem_take hs))).le (by
  have:=zR (40001+1) (show ((DM n n.nodes.length).take t).length<=5 by rw[List.length_take];omega)
  omega)
 have Ji : ∀ t,Bt 301000000000 (x9 (λ s=>s.l*I7 n p D E cO s) ((DM n n.nodes.length).take t)):=λ t=>(yS λ s hs=>Cq s (La s (List.mem_of_mem_take hs))).le (by
  have:=zR (60000000001+1) (show ((DM n n.nodes.length).take t).length<=5 by rw[List.length_take];omega)
  omega)
 have Bq:=λ(s:CK) (hs:s∈q8 n) (t:Nat)=>JQ N.toa7 (Ai t) (ql s hs) (by omega) (by omega)
 have Bu:=λ(s:CK) (hs:s∈q8 n) (t:Nat)=>JQ N.toa7 (Ji t) (Cq s hs) (by omega) (by omega)
 have fb:E8 n 0 1∈q8 n:=List.mem_cons_self;have rp:(q8 n)[(0:Int).toNat]? = some (E8 n 0 1):=rfl;have Ks : ∀ (t:Nat) (s:CK),(DM n n.nodes.length)[t]? = some s->(q8 n)[((t+1:Nat):Int).toNat]? = some s:=λ t s h=>h
 have Gu:(q8 n).length=(DM n n.nodes.length).length+1:=rfl;have hF0:=λ l=>(rfl:x9 (λ s=>s.l*A4 (s.g.getD w 0)) (List.take 0 l)=0)
 have Ib:=λ l=>(rfl:x9 (λ s=>s.l*I7 n p D E cO s) (List.take 0 l)=0)
 have hFt:=λ(t:Nat) (s:CK) (h:(DM n n.nodes.length)[t]? = some s)=>cZ (f:=λ s=>s.l*A4 (s.g.getD w 0)) h
 have Ie:=λ(t:Nat) (s:CK) (h:(DM n n.nodes.length)[t]? = some s)=>cZ (f:=λ s=>s.l*I7 n p D E cO s) h
 have jc:=(Bt.zero 1).add (ql _ fb);have Az:=(Bt.zero 1).add (Cq _ fb);have Hy:=Ai (DM n n.nodes.length).length;have Ff:=Ji (DM n n.nodes.length).length;have Bw:=cH N.toa7 Az ui (by omega) (by omega) l9;have tz:=JQ N.toa7 jc (Az.od ui) (by omega) (by omega);have xq:=cH N.toa7 Ff ui (by omega) (by omega) l9;have ua:=JQ N.toa7 Hy (Ff.od ui) (by omega) (by omega);have Hr:=(jc.add (Az.od ui)).le (show _<=400000000000 by omega);have Fe:=(Hy.add (Ff.od ui)).le (show _<=400000000000 by omega);rw[List.take_length]at xq ua Fe;rw[<-El]at Hr tz;rw[<-de]at Fe ua;have Ih:=hK Hr Fe;obtain ⟨xa,Lm⟩ : ∃ xa:CK->Rat,∀ s,xa s=A4 (s.g.getD w 0):=⟨_,λ_=>rfl⟩;obtain ⟨xm,Ba⟩ : ∃ xm:CK->Rat,∀ s,xm s=s.l*A4 (s.g.getD w 0):=⟨_,λ_=>rfl⟩;obtain ⟨ga,Jw⟩ : ∃ ga:CK->Rat,∀ s,ga s=I7 n p D E cO s:=⟨_,λ_=>rfl⟩;obtain ⟨gm,Gd⟩ : ∃ gm:CK->Rat,∀ s,gm s=s.l*I7 n p D E cO s:=⟨_,λ_=>rfl⟩;obtain ⟨F,hF⟩ : ∃ F:Nat->Rat,∀ t,F t=x9 (λ s=>s.l*A4 (s.g.getD w 0)) ((DM n n.nodes.length).take t):=⟨_,λ_=>rfl⟩;obtain ⟨G,hG⟩ : ∃ G:Nat->Rat,∀ t,G t=x9 (λ s=>s.l*I7 n p D E cO s) ((DM n n.nodes.length).take t):=⟨_,λ_=>rfl⟩;have e1 : ∀ s∈q8 n,Ev L 256 [.agg (eQ (s.g.getD w 0))] (.agg (eQ (xa s))):=λ s hs=>by rw[Lm];exact Fb s hs
 have e2 : ∀ s∈q8 n,Ev L 99 [.agg (eQ s.l),.agg (eQ (xa s))] (.agg (eQ (xm s))):=λ s hs=>by rw[Lm,Ba];exact Sw s hs
 have e4 : ∀ s∈q8 n,∀ q,Ev L 305 [.agg (IA false (B9 D (aN n)) D (p:Int) (D^(p+p-1))),.sl q (cO.map eQ),.agg (.sl true (R5 (IV n p D E s).1)::JP true (IV n p D E s).2)] (.agg (eQ (ga s))):=λ s hs q=>by rw[Jw];exact Sl s hs q
 have e5 : ∀ s∈q8 n,Ev L 99 [.agg (eQ s.l),.agg (eQ (ga s))] (.agg (eQ (gm s))):=λ s hs=>by rw[Jw,Gd];exact Sv s hs
 have e3 : ∀ s∈q8 n,∀ t,(DM n n.nodes.length)[t]? = some s->Ev L 98 [.agg (eQ (F t)),.agg (eQ (xm s))] (.agg (eQ (F (t+1)))):=λ s hs t h=>by
  rw[hF,hF,Ba,cZ h];exact Bq s hs t
 have e6 : ∀ s∈q8 n,∀ t,(DM n n.nodes.length)[t]? = some s->Ev L 98 [.agg (eQ (G t)),.agg (eQ (gm s))] (.agg (eQ (G (t+1)))):=λ s hs t h=>by
  rw[hG,hG,Gd,cZ h];exact Bu s hs t
 have z3:=Bp _ fb;have z6:=Br _ fb;rw[<-Ba]at z3 tz;rw[<-Gd]at z6 Bw tz;have Bx:F (DM n n.nodes.length).length=x9 (λ s=>s.l*A4 (s.g.getD w 0)) (DM n n.nodes.length):=by rw[hF,List.take_length]
 have xv:G (DM n n.nodes.length).length=x9 (λ s=>s.l*I7 n p D E cO s) (DM n n.nodes.length):=by rw[hG,List.take_length]
 rw[<-Bx,<-xv]at ua;rw[<-xv]at xq;have Hw:F 0=0:=by rw[hF];rfl
 have Ic:G 0=0:=by rw[hG];rfl
 clear hK Hr Fe Ai Ji ql Cq v7 jc Az Hy Ff El de fe Fx ke qi vq Ht ui jq bO Fb Sw Sv Bq Bu Sl Bp Br hF hG Lm Ba Jw Gd hF0 Ib hFt Ie Bx xv l9 Tz Ua Ub;obtain ⟨P,hP⟩ : ∃ P:CK->List (List Rat) × Rat,P=IV n p D E:=⟨_,rfl⟩;rw[<-hP]at e4;unfold ZA at Ih ⊢;rw[<-hP]at Ih ⊢;clear hP;generalize 0+xm (E8 n 0 1)=r0 at *;generalize 0+gm (E8 n 0 1)=w0 at *;generalize D^(p+p-1)*(E*O)=dv at *;generalize w0/dv=q0 at *;generalize G (DM n n.nodes.length).length/dv=q1 at *;generalize E*O=EO at *;generalize IE n p w=ra at *;generalize H3 n p w=rb at *;generalize D^(p+p-1)=la at *;generalize hTT:DM n n.nodes.length=T at *;generalize hSS:q8 n=SS at *;generalize E8 n 0 1=s0 at *;generalize E3 (FG n) w=cw at *;clear jg hcd yq;refine gG ?_;rcases hX with ⟨rfl,rfl⟩|⟨rfl,rfl⟩|⟨rfl,rfl⟩
 all_goals
  refine GK 1000 N.NX rfl rfl ?_;(repeat' (apply AE<;>conv=>whnf))
  refine QQ (λ_=>rfl) rfl n6.symm ?_;(conv=>whnf)
  (repeat' ((first|refine GA rfl ?_|refine AD (Fl _ _) ?_|refine AD (oe _) ?_|refine AD (Iq _) ?_|refine AD (fp) ?_|refine AD (il) ?_|refine AD (pe) ?_)<;>conv=>whnf))
  refine GJ ?_;(repeat' ((first|(apply AG<;>intro hc<;>try omega)|(apply A2;omega)|(refine gL ?_ (λ_=>rfl) (λ v hv => ?_);omega)|apply AE)<;>conv=>whnf))
  cases rp.symm.trans hv;have na:=hx _ fb;have f1:=e1 _ fb;have f2:=e2 _ fb;have f4:=e4 _ fb;have f5:=e5 _ fb;(repeat' ((first|(apply A2;omega)|(apply AQ;omega)|(refine A9 (by assumption) ?_ rfl ?_;omega)|refine AD (f1) ?_|refine AD (f2) ?_|refine AD (z3) ?_|refine AD (f4 _) ?_|refine AD (f5) ?_|refine AD (z6) ?_)<;>conv=>whnf))
  clear f1 f2 f4 f5;refine D8 (λ t=>T.length-t) (λ(t:Nat)=>t<=T.length) (λ t=>[(41,.int .i64 (t+1:Nat))]) (λ t=>[(354010,354010,.bx (eQ r0++eQ (F t))),(354011,354011,.bx (eQ w0++eQ (G t)))]) [] [] 0 (by rw[Hw,Ic];exact (by (conv=>whnf);exact ⟨rfl,rfl,rfl⟩)) (by omega) ?_;intro t t1 th;by_cases ht:t<T.length
  ·obtain ⟨s,hs⟩ : ∃ s,T[t]? = some s:=⟨_,zE ht⟩
   have Du:=Ks t s hs;have ct:=La s (zM hs);have na:=hx _ ct;have f1:=e1 _ ct;have f2:=e2 _ ct;have f3:=e3 _ ct t hs;have f4:=e4 _ ct;have f5:=e5 _ ct;have f6:=e6 _ ct t hs;have th':=th (t+1) (by omega) (by omega);clear th;rcases Nat.eq_zero_or_pos t with rfl|Ui
   all_goals
    (repeat' ((first|(apply AG<;>intro hc<;>try omega)|(apply A2;omega)|(refine T9 ?_ (λ_=>rfl) (λ v hv => ?_);omega)|apply AE)<;>conv=>whnf))
    cases Du.symm.trans hv;(repeat' ((first|(apply A2;omega)|(apply AQ;omega)|(refine A9 (by assumption) ?_ rfl ?_;omega)|refine AD (f1) ?_|refine AD (f2) ?_|refine AD (f3) ?_|refine AD (f4 _) ?_|refine AD (f5) ?_|refine AD (f6) ?_)<;>conv=>whnf))
    exact BN [] (by (conv=>whnf);exact ⟨rfl,rfl,rfl⟩) th'
  have et:t=T.length:=by omega
  clear th;rw[et];(repeat' ((first|(apply AG<;>intro hc<;>try omega)|apply AE)<;>conv=>whnf))
  refine GJ ?_;(repeat' ((first|(apply AG<;>intro hc<;>try omega)|(apply A2;omega)|(apply AQ;omega)|apply AE|refine AD (Bw) ?_|refine AD (tz) ?_)<;>conv=>whnf))
  refine GJ ?_;(repeat' ((first|(apply AG<;>intro hc<;>try omega)|(apply A2;omega)|(apply AQ;omega)|apply AE|refine AD (xq) ?_|refine AD (ua) ?_)<;>conv=>whnf))
  refine GJ ?_;(repeat' ((first|(apply AG<;>intro hc<;>try omega)|(apply A2;omega)|apply AE)<;>conv=>whnf))
  refine ⟨rfl,?_⟩;(conv=>whnf)
  refine ⟨_,?_,Ih⟩;first|exact ⟨rfl,rfl,rfl,rfl,rfl,rfl,rfl,trivial⟩|exact ⟨rfl,rfl,rfl,rfl,rfl,rfl,rfl,rfl,trivial⟩
def E5 (n:Nt) (p k:Nat) (x:Int):Rat:=IE n p (1+n.s.toNat+k)*(x:Rat)+H3 n p (1+n.s.toNat+k)
theorem Yp {n:Nt} {p k:Nat} {x y:Int} (h:x<=y):E5 n p k x<=E5 n p k y:=by
 have h1:=Aj3 n p (1+n.s.toNat+k);have h2:(x:Rat)<=(y:Rat):=Rat.intCast_le_intCast.2 h;have:=Rat.mul_le_mul_of_nonneg_left h2 h1
 rw[E5,E5];grind
def aV (n:Nt):Prop := ∀ j,j<=6->DJ (B2 n.s.toNat (aN n) j)=false
theorem Y5 {w:Wd} (h:WV w):0<=EK w/\EK w<=8388607:=by
 rw[EK,if_pos h];unfold WV at h;have h1:=K0 (n:=w.b-1) (m:=23) (by omega);have h2:=E0 (w.b-1);have h3:pw 23=8388608:=by unfold pw;rfl
 omega
def pJ (n:Nt) (i:Nat) (v:AV):Prop:=(∃ m:Int,0<=m/\m<=EK n.d/\v = .g8 [.int .i64 m,.int .i64 0] /\ ∀ x:Int,0<=x->x<=EK n.d->(x<=m ↔ ∀ k,k<n.nodes.length->E5 n (2^i) k x<=(EK n.d:Rat)))\/(∃ k,k<n.nodes.length/\(EK n.d:Rat)<H3 n (2^i) (1+n.s.toNat+k)/\v = .g8 [.int .i64 0,.int .i64 18])
theorem Agg (I:c7 L) (N:n8 L) (n:Nt) (hn:CT n) :
  ∃ v,Ev L 358 [.agg (CO n)] v/\((∃ i,i<=6/\HA n.s.toNat (aN n) i/\pJ n i v)\/(aV n/\v = .g8 [.int .i64 0,.int .i64 14])):=by
 obtain ⟨kv,_,⟨nz,_⟩,_⟩:=(C5 n).1 hn.aw;have De:=Y5 kv;have k7:=hn.st;have ew:=hn.nl;have hU:=vM I N n hn;have hH:=cI n.d I;unfold pJ;generalize Gf:EK n.d=hi at *;have Ij:=HN N.toa7 hi (by omega);have Fw:=Bt.ofInt (show hi.natAbs<=2^24 by have:(2:Nat)^24=16777216:=rfl;omega);refine Ev.xE N.NS rfl rfl ?_;(repeat' ((first|apply AE|refine AD (hU) ?_)<;>conv=>whnf))
 refine XP [1] [(1,1,.bx (CO n))] ⟨rfl,trivial⟩ rfl (qO I N n hn _ _ 1 (Or.inl ⟨rfl,rfl⟩) _ (λ i i1 i2 => ?_) (λ sf => ?_))
 ·obtain ⟨g1,_,g3⟩:=RE i1
  have yh:=λ(k:Nat) (hk:k<n.nodes.length) (K:AV->Mem->Prop) hK=>qP N n hn i i1 (1+n.s.toNat+k) (by omega) [(1,1,.bx (CO n)),(6,6,.bx (eQ (hi:Rat)))] [1,6] 1 (hi:Rat) (Or.inr (Or.inl ⟨rfl,rfl⟩)) K hK
  have Cr : ∀ k x,E5 n (2^i) k x=IE n (2^i) (1+n.s.toNat+k)*(x:Rat)+H3 n (2^i) (1+n.s.toNat+k):=λ_ _=>rfl
  have jc : ∀ k,E5 n (2^i) k 0=H3 n (2^i) (1+n.s.toNat+k):=λ k=>by rw[Cr,show ((0:Int):Rat)=0 from rfl,Rat.mul_zero,Rat.zero_add]
  have As : ∀ k (x y:Int),x<=y->E5 n (2^i) k x<=E5 n (2^i) k y:=λ k x y h=>Yp h
  (repeat' ((first|(apply AG<;>intro hc<;>try omega)|apply AP|refine AD (hH) ?_|refine AD (Ij) ?_)<;>conv=>whnf))
  refine FU (λ k _=>n.nodes.length-k) (λ(k:Nat) (m:Int)=>k<=n.nodes.length/\0<=m/\m<=hi /\ ∀ x:Int,0<=x->x<=hi->(x<=m ↔ ∀ j,j<k->E5 n (2^i) j x<=(hi:Rat))) (λ k m=>[(33,.int .i64 k),(7,.int .i64 m)]) (λ_ _=>[]) 0 hi ⟨by omega,by omega,by omega,λ x _ h=>⟨λ_ j hj=>absurd hj (by omega),λ_=>h⟩⟩ ?_;intro k m ⟨k1,m0,m1,k2⟩ kh;by_cases hk:k<n.nodes.length
  ·(repeat' ((first|(apply AG<;>intro hc<;>try omega)|(apply A2;omega)|(apply AQ;omega)|apply AE)<;>conv=>whnf))
   rw[show (1+n.s+(k:Int))=((1+n.s.toNat+k:Nat):Int) by omega];refine XP _ _ ?_ ?_ (yh k hk _ ?_)
   ·exact ⟨rfl,rfl,rfl,rfl,rfl,rfl,rfl,rfl,trivial⟩
   ·rfl
   intro b1 b2;have Aa:=λ(x:Int) (hx:x.natAbs<=2^24)=>tV N (IE n (2^i) (1+n.s.toNat+k)) (H3 n (2^i) (1+n.s.toNat+k)) x 400000000000 b1 b2 (by omega) hx
   have hCr:=YN N.too8 b2 Fw (by omega) (by omega);have wy:=P8 (x:=H3 n (2^i) (1+n.s.toNat+k)) (y:=(hi:Rat));have lu:=λ(x:Int) (hx:x.natAbs<=2^24)=>YN N.too8 (x:=E5 n (2^i) k x) ((b1.mul (Bt.ofInt hx)).add b2) Fw (by omega) (by omega)
   have ou:=λ x:Int=>P8 (x:=E5 n (2^i) k x) (y:=(hi:Rat))
   have Rz : ∀ x:Int,x.natAbs<=2^24->Ev L 353 [.agg (eQ (IE n (2^i) (1+n.s.toNat+k))++eQ (H3 n (2^i) (1+n.s.toNat+k))),.int .i64 x] (.agg (eQ (E5 n (2^i) k x))):=Aa;have Cn:=jc k;have yy:=As k;generalize Tp:(λ x=>E5 n (2^i) k x)=bf at *;have ql : ∀ x,E5 n (2^i) k x=bf x:=λ x=>by rw[<-Tp]
   simp only[ql]at Rz lu ou Cn yy;clear Aa Cr jc As;generalize Uc:IE n (2^i) (1+n.s.toNat+k)=ra at *;generalize mb:H3 n (2^i) (1+n.s.toNat+k)=rb at *;generalize AuU:o9 (rb-(hi:Rat)).num=sr at *;(conv=>whnf)
   (repeat' ((first|(apply AG<;>intro hc<;>try omega)|refine AD (hCr) ?_)<;>conv=>whnf))
   ·refine ⟨_,AW rfl (by simp [AZ,BS]),Or.inl ⟨i,i1,i2,Or.inr ⟨k,hk,?_,rfl⟩⟩⟩
    rw[mb];exact wy.1 hc
   ·have js:rb<=(hi:Rat):=Rat.not_lt.1 λ h=>by have:=wy.2 h;omega
    refine FU (λ lo m'=>(m'-lo).toNat) (λ(lo m':Int)=>0<=lo/\lo<=m'/\m'<=m/\bf lo<=(hi:Rat) /\ ∀ x:Int,m'<x->x<=m -> ¬ bf x<=(hi:Rat)) (λ lo m'=>[(10,.int .i64 lo),(7,.int .i64 m')]) (λ_ _=>[]) 0 m ⟨by omega,by omega,by omega,by rw[Cn];exact js,λ x h1 h2=>absurd h1 (by omega)⟩ ?_;intro lo m' ⟨l0,l1,l2,l3,l4⟩ lh;by_cases hlm:lo<m'
    ·obtain ⟨md,yx⟩ : ∃ md:Int,md=(lo+m'+1)/2:=⟨_,rfl⟩
     have eu:lo<md/\md<=m':=by omega
     have h3:=Rz md (by have:(2:Nat)^24=16777216:=rfl;omega);have h4:=lu md (by have:(2:Nat)^24=16777216:=rfl;omega);have h5:=ou md;generalize o9 (bf md-(hi:Rat)).num=sm at *;(repeat' ((first|(apply AG<;>intro hc<;>try omega)|(apply AQ;omega)|(refine LI ?_ ?_ (λ_ => ?_) (λ_ _ => ?_);omega;omega;all_goals try omega)|apply AE)<;>conv=>whnf))
     rw[<-yx];(repeat' ((first|(apply AG<;>intro hc<;>try omega)|(apply BL;omega)|refine AD (h3) ?_|refine AD (h4) ?_)<;>conv=>whnf))
     ·have lz:=h5.1 hc
      exact BB [] (lh lo (md-1) (by omega) ⟨by omega,by omega,by omega,l3,λ x q1 q2 q3=>by
       have:=yy md x (by omega)
       grind⟩)
     ·have hle:bf md<=(hi:Rat):=Rat.not_lt.1 λ h=>by have:=h5.2 h;omega
      exact BB [] (lh md m' (by omega) ⟨by omega,by omega,by omega,hle,l4⟩)
    have el:lo=m':=by omega
    clear lh;subst el;have gj : ∀ x:Int,0<=x->x<=hi->(x<=lo ↔ ∀ j,j<k+1->E5 n (2^i) j x<=(hi:Rat)):=λ x x0 x1=>by
     refine ⟨λ h j hj => ?_,λ h=>Int.not_lt.1 λ j9 => ?_⟩
     ·by_cases e:j=k
      ·rw[e,ql]
       have:=yy x lo h
       grind
      ·exact (k2 x x0 x1).1 (by omega) j (by omega)
     ·have h1:=(k2 x x0 x1).2 λ j hj=>h j (by omega)
      have h2:=h k (by omega);rw[ql]at h2;exact l4 x j9 h1 h2
    (repeat' ((first|(apply AG<;>intro hc<;>try omega)|(apply AQ;omega)|apply AE)<;>conv=>whnf))
    exact BB [] (kh (k+1) lo (by omega) ⟨by omega,by omega,by omega,gj⟩)
  have ek:k=n.nodes.length:=by omega
  clear kh;rw[ek]at k2 ⊢;(repeat' ((first|(apply AG<;>intro hc<;>try omega)|apply AE)<;>conv=>whnf))
  exact ⟨_,AW rfl (by simp [AZ,BS]),Or.inl ⟨i,i1,i2,Or.inl ⟨m,m0,m1,rfl,k2⟩⟩⟩
 ·(repeat' ((first|(apply AG<;>intro hc<;>try omega)|fail)<;>conv=>whnf))
  exact ⟨_,AW rfl (by simp [AZ,BS]),Or.inr ⟨sf,rfl⟩⟩
end Go.c6
