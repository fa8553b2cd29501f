/-
  Whatever the abstract machine says of an operation, the model does.
-/
import Derived.Test.YtjelffbnkmbgaaaDoorB2
import Derived.Orders
import Derived.Test.YtjelffbnkmbgaaaDoorB1
import Derived.IntWalk
set_option linter.unusedSimpArgs false
set_option linter.unusedVariables false
set_option linter.unnecessarySimpa false
namespace Go.Eng
open Go.RowKit
section
variable {B:Nat} {S:Nat→Prop} {w0:Base} {m:M}
variable {P:Program} {num:Nat→Nat} {o:Oper} {a:Act} {ρ:Opd→AV} {C:Cl} {ban:List Nat}
theorem do_mm' (hm:MemOK B S w0 m) (hs:Says B S m ρ a.eval) {mx:Bool} {xs':List Opd} (h:okOp P num o.op (.mm mx xs')=true) {v r:AV} {l:List AV} (hx:xs'.map ρ=v::l) (hv:mmL mx v l=some r):Does B S w0 P o a m (.val r):=by
 by_cases hi : ∃ k n,v = .int k n
 ·exact do_mm hm hs h hx hv hi
 ·cases l with
  | cons u q =>
   simp only[mmL]at hv;exfalso;cases v<;>first|(exact hi ⟨_,_,rfl⟩)|(simp [mm2]at hv)
  | nil =>
   simp only[mmL,Option.some.injEq]at hv;subst hv;obtain ⟨xs,ts,hop,he⟩:=inv_mm h;cases xs' with
   | nil=>simp at hx
   | cons y yr =>
    simp only[List.map_cons,List.cons.injEq,List.map_eq_nil_iff]at hx;obtain ⟨rfl,rfl⟩:=hx;obtain ⟨xl⟩:=xs;cases xl with
    | nil=>simp [eqOpds]at he
    | cons x xr =>
     simp only[eqOpds,Bool.and_eq_true]at he;cases xr with
     | cons=>simp [eqOpds]at he
     | nil =>
      refine does_val hm (u:=a.eval x) ?_ (hs x y he.1);cases mx<;>simp [execOp,hop,resolve,invoke,builtin,Builtin.min_,Builtin.max_]
theorem get_hide (o:Own) (l:List Nat) (s t:Nat) (b:Blk) (h:(o.hide l).get s t=some b):o.get s t=some b:=by
 induction l with
 | nil=>exact h
 | cons x r ih =>
  unfold Own.get Own.hide at h;by_cases hs:s=x
  ·simp [hs]at h
  ·simp only[if_neg hs]at h
   exact ih h
theorem ldp_hide {o:Own} {l:List Nat} {s t i j n:Nat} {cs:List AV} (h:(o.hide l).ldp s t i j n=some cs):o.ldp s t i j n=some cs:=by
 unfold Own.ldp at *;cases hg:(o.hide l).get s t with
 | none=>simp [hg]at h
 | some b =>
  rw[get_hide o l s t b hg];simpa [hg] using h
theorem elems_hide {o:Own} {l:List Nat} {v:AV} {es:List (List AV)} (h:elemsOf (o.hide l) v=some es):elemsOf o v=some es:=by
 cases v with
 | con v=>cases v<;>exact h
 | row s t z off len =>
  simp only[elemsOf]at h ⊢;cases hg:(o.hide l).get s t with
  | none=>simp [hg]at h
  | some b =>
   rw[get_hide o l s t b hg];simpa [hg] using h
 | _=>exact h
theorem mapM_mono {α β:Type} {f g:α→Option β} (hfg : ∀ x y,f x=some y→g x=some y) : ∀ {l:List α} {l':List β},l.mapM f=some l'→l.mapM g=some l'
 | [],l',h=>by simpa using h
 | x::r,l',h=>by
  simp only[List.mapM_cons,Option.bind_eq_bind,Option.pure_def]at h ⊢;cases hx:f x with
  | none=>simp [hx]at h
  | some y =>
   cases hr:r.mapM f with
   | none=>simp [hx,hr]at h
   | some r' =>
    simp [hx,hr]at h;simp [hfg x y hx,mapM_mono hfg hr,h]
theorem snap_hide (o:Own) (l:List Nat) (b:Bool) : ∀ (d:Nat) (c c':AV),snap (o.hide l) b d c=some c'→snap o b d c=some c'
 | 0,c,c',h=>by cases c<;>simp_all [snap]
 | d+1,c,c',h=>by
  cases c<;>first|(simp_all [snap];done)|skip
  rename_i s t z off len;simp only[snap]at h ⊢;cases he:elemsOf (o.hide l) (.row s t z off len) with
  | none=>simp [he]at h
  | some es =>
   simp only[he]at h;rw[elems_hide he];simp only[Option.map_eq_some_iff]at h ⊢;obtain ⟨es',h1,h2⟩:=h;exact ⟨es',mapM_mono (fun x y hx=>mapM_mono (snap_hide o l b d) hx) h1,h2⟩
theorem snapA_hide (o:Own) (l:List Nat) (b:Bool) (c c':AV) (h:snapA (o.hide l) b c=some c'):snapA o b c=some c':=by
 cases c<;>first|exact snap_hide o l b 6 _ _ h|skip
 simp only[snapA,Option.map_eq_some_iff]at h ⊢;obtain ⟨cs,h1,h2⟩:=h;exact ⟨cs,mapM_mono (snap_hide o l b 6) h1,h2⟩
theorem snapN_hide (o:Own) (l:List Nat) (b:Bool) (c c':AV) (h:snapN (o.hide l) b c=some c'):snapN o b c=some c':=by
 rcases Classical.em (c = .nil) with rfl|hc
 ·exact h
 ·have e : ∀ o:Own,snapN o b c=snapA o b c:=fun o=>by cases c<;>first|rfl|exact (hc rfl).elim
  rw[e]at h ⊢;exact snapA_hide o l b _ _ h
theorem mapN_hide {o:Own} {l:List Nat} {b:Bool} {xs vs:List AV} (h:xs.mapM (snapN (o.hide l) b)=some vs):xs.mapM (snapN o b)=some vs:=mapM_mono (snapN_hide o l b) h
theorem mapM_hide {o:Own} {l:List Nat} {b:Bool} {xs vs:List AV} (h:xs.mapM (snapA (o.hide l) b)=some vs):xs.mapM (snapA o b)=some vs:=mapM_mono (snapA_hide o l b) h
theorem wf_i64 {n:Int} (h0 : -9223372036854775808≤n) (h1:n≤9223372036854775807):(Lit.int .i64 n).wf=true:=by
 simp [Lit.wf,IntKind.min,IntKind.max,IntKind.signed,IntKind.bits];omega
theorem siteOk_lo {op:AOp} {s:Nat} (h:siteOk op=true) (hs:siteOf op=some s):s<mapLo:=by
 simp only[siteOk,hs,Bool.and_eq_true]at h;have:=h.1
 simpa [Nat.blt_eq] using this
theorem siteOk_app {s esz bytes:Nat} {x y:Opd} (h:siteOk (.app s esz bytes x y)=true):s<mapLo:=by
 simp only[siteOk,Bool.and_eq_true]at h;have:=h.2
 simpa [Nat.blt_eq] using this
theorem eff_sound {I:Keep} (hC:CallsAt I P num C B w0) (hm:MemOK B S w0 m) (hs:Says B S m ρ a.eval) {op':AOp} (hok:okOp P num o.op op'=true) (hsi:siteOk op'=true) {E:Eff} (h:eff C ban ρ m.own op'=some E):Does B S w0 P o a m E:=by
 cases op' with
 | mov x=>simp only[eff,Option.some.injEq]at h;subst h;exact do_mov hm hs hok
 | vrow s z=>simp only[eff,Option.some.injEq]at h;subst h;exact do_vrow hm (siteOk_lo hsi rfl) hok
 | pick c x y =>
  simp only[eff]at h;split at h
  ·rename_i hc;simp only[Option.some.injEq]at h;subst h;exact do_pick hm hs hok hc
  ·rename_i hc;simp only[Option.some.injEq]at h;subst h;exact do_pick hm hs hok hc
  ·cases h
 | bin f x y =>
  simp only[eff]at h;split at h
  ·rename_i k n k' n' hx hy
   simp only[Option.map_eq_some_iff]at h;obtain ⟨v,hv,rfl⟩:=h;exact do_bin hm hs hok hx hy hv
  ·cases h
 | beq ne x y =>
  simp only[eff]at h;split at h
  ·rename_i b b' hx hy
   simp only[Option.some.injEq]at h;subst h;exact do_beq hm hs hok hx hy
  ·cases h
 | un f x =>
  simp only[eff,Option.map_eq_some_iff]at h;obtain ⟨v,hv,rfl⟩:=h;exact do_un hm hs hok hv
 | conv k x =>
  simp only[eff]at h;split at h
  ·rename_i k' n hx
   simp only[Option.some.injEq]at h;subst h;exact do_conv hm hs hok hx
  ·cases h
 | box s x =>
  simp only[eff]at h;split at h
  ·rename_i cs hcs
   simp only[Option.some.injEq]at h;subst h;exact do_box hm hs (siteOk_lo hsi rfl) hok hcs
  ·cases h
 | alloc s z=>simp only[eff,Option.some.injEq]at h;subst h;exact do_alloc hm (siteOk_lo hsi rfl) hok
 | build z ps =>
  simp only[eff,Option.map_eq_some_iff]at h;obtain ⟨cs,hcs,rfl⟩:=h;exact do_build hm hs hok hcs
 | bslice s esz ps =>
  simp only[eff]at h;split at h
  ·rename_i es hes
   split at h
   ·rename_i hz
    simp only[Option.some.injEq]at h;subst h;exact do_bslice hm hs (siteOk_lo hsi rfl) hok hes hz
   ·cases h
  ·cases h
 | fadr x off =>
  simp only[eff]at h;split at h
  ·rename_i s t i j hx
   simp only[Option.some.injEq]at h;subst h;exact do_fadr_ptr hm hs hok hx
  ·rename_i cs hx
   simp only[Option.some.injEq]at h;subst h;exact do_fadr_dptr hm hs hok hx
  ·cases h
 | fld x off n agg =>
  simp only[eff]at h;split at h
  ·rename_i cs hx
   split at h
   ·rename_i ds hp
    simp only[Option.map_eq_some_iff]at h;obtain ⟨v,hv,rfl⟩:=h;exact do_fld hm hs hok hx hp hv
   ·cases h
  ·cases h
 | iadr arr esz x i =>
  simp only[eff]at h;split at h
  ·rename_i k n hi
   split at h
   ·rename_i len s t i' j hx
    split at h
    ·rename_i hn
     simp only[Option.some.injEq]at h;subst h;exact do_iadr_arr hm hs hok hi hx hn.1 hn.2
    ·cases h
   ·rename_i len cs hx
    split at h
    ·rename_i hn
     simp only[Option.some.injEq]at h;subst h;exact do_iadr_darr hm hs hok hi hx hn.1 hn.2
    ·cases h
   ·rename_i s t z off len hx
    split at h
    ·rename_i hn
     simp only[Option.some.injEq]at h;subst h;exact do_iadr_row hm hs hok hi hx hn.1 hn.2.1 hn.2.2
    ·cases h
   ·rename_i l es hx
    split at h
    ·rename_i h0
     split at h
     ·rename_i cs hcs
      split at h
      ·rename_i hz
       simp only[Option.some.injEq]at h;subst h;exact do_iadr_sl hm hs hok hi hx h0 hcs hz
      ·cases h
     ·cases h
    ·cases h
   ·cases h
  ·cases h
 | ld agg n x =>
  simp only[eff]at h;split at h
  ·rename_i s t i j hx
   split at h
   ·rename_i cs hcs
    simp only[Option.map_eq_some_iff]at h;obtain ⟨v,hv,rfl⟩:=h;exact do_ld_ptr hm hs hok hx (ldp_hide hcs) hv
   ·cases h
  ·rename_i cs hx
   split at h
   ·rename_i ds hp
    simp only[Option.map_eq_some_iff]at h;obtain ⟨v,hv,rfl⟩:=h;exact do_ld_dptr hm hs hok hx hp hv
   ·cases h
  ·cases h
 | st n x v =>
  simp only[eff]at h;split at h
  ·rename_i s t i j vs hx hvs
   split at h
   ·rename_i hn
    simp only[Option.map_eq_some_iff]at h;obtain ⟨own',ho,rfl⟩:=h;exact do_st hm hs hok hx hvs hn ho
   ·cases h
  ·cases h
 | mk s esz bytes zero l c =>
  simp only[eff]at h;split at h
  ·rename_i kl a' kc b' hl hc
   split at h
   ·rename_i hn
    simp only[Option.some.injEq]at h;subst h;exact do_mk hm hs (siteOk_lo hsi rfl) hok hl hc hn.1 hn.2.1 hn.2.2.1 hn.2.2.2.1 hn.2.2.2.2
   ·cases h
  ·cases h
 | slc esz x lo hi =>
  simp only[eff]at h;have bnd : ∀ (d:Nat) (y:Option Opd) (q:Nat),(match y with|none=>some d|some o=>match ρ o with | .int _ n=>if 0≤n∧n≤d then some n.toNat else none|_=>none)=some q → ∃ n:Int,bndA ρ d y=some n∧0≤n∧n≤d∧q=n.toNat:=fun d y q hq=>by
   cases y with
   | none=>simp only[Option.some.injEq]at hq;subst hq;exact ⟨d,rfl,by omega,by omega,by simp⟩
   | some y =>
    simp only at hq;cases hy:ρ y with
    | int k n =>
     simp only[hy]at hq;split at hq
     ·rename_i hn
      simp only[Option.some.injEq]at hq;subst hq;exact ⟨n,by simp [bndA,hy],hn.1,hn.2,rfl⟩
     ·cases hq
    | _=>simp [hy]at hq
  have bnd0 : ∀ (y:Option Opd) (q:Nat),(match y with|none=>some 0|some o=>match ρ o with | .int _ n=>if 0≤n then some n.toNat else none|_=>none)=some q → ∃ n:Int,bndA ρ 0 y=some n∧0≤n∧q=n.toNat:=fun y q hq=>by
   cases y with
   | none=>simp only[Option.some.injEq]at hq;subst hq;exact ⟨0,rfl,by omega,by simp⟩
   | some y =>
    simp only at hq;cases hy:ρ y with
    | int k n =>
     simp only[hy]at hq;split at hq
     ·rename_i hn
      simp only[Option.some.injEq]at hq;subst hq;exact ⟨n,by simp [bndA,hy],hn,rfl⟩
     ·cases hq
    | _=>simp [hy]at hq
  have bndz : ∀ (y:Option Opd) (q:Nat),(match y with|none=>some 0|some o=>match ρ o with | .int _ n=>if n=0 then some 0 else none|_=>none)=some q→bndA ρ 0 y=some 0:=fun y q hq=>by
   cases y with
   | none=>rfl
   | some y =>
    simp only at hq;cases hy:ρ y with
    | int k n =>
     simp only[hy]at hq;split at hq
     ·rename_i hn
      subst hn;simp [bndA,hy]
     ·cases hq
    | _=>simp [hy]at hq
  split at h
  ·rename_i l es hx
   split at h
   ·rename_i q1 q2 h1 h2
    split at h
    ·rename_i hq
     simp only[Option.some.injEq]at h;subst h;obtain ⟨n1,b1,c1,rfl⟩:=bnd0 _ _ h1;obtain ⟨n2,b2,c2,c3,rfl⟩:=bnd _ _ _ h2;exact do_slc_sl hm hs hok hx b1 b2 c1 (by omega) c3 hq.2
    ·cases h
   ·cases h
  ·rename_i hx
   split at h
   ·rename_i q1 q2 h1 h2
    simp only[Option.some.injEq]at h;subst h;exact do_slc_nil hm hs hok hx (bndz _ _ h1) (bndz _ _ h2)
   ·cases h
  ·rename_i s t z off len hx
   split at h
   ·rename_i q1 q2 h1 h2
    split at h
    ·rename_i hq
     simp only[Option.some.injEq]at h;subst h;obtain ⟨n1,b1,c1,rfl⟩:=bnd0 _ _ h1;obtain ⟨n2,b2,c2,c3,rfl⟩:=bnd _ _ _ h2;exact do_slc_row hm hs hok hx b1 b2 c1 (by omega) c3 hq.2
    ·cases h
   ·cases h
  ·cases h
 | ext x i =>
  simp only[eff]at h;split at h
  ·rename_i vs hx
   simp only[Option.map_eq_some_iff]at h;obtain ⟨v,hv,rfl⟩:=h;exact do_ext hm hs hok hx hv
  ·cases h
 | len x =>
  simp only[eff]at h;split at h
  ·rename_i n hn
   simp only[Option.some.injEq]at h;subst h;exact do_len hm hs hok hn
  ·cases h
 | mm mx xs =>
  simp only[eff]at h;split at h
  ·cases h
  ·rename_i v r hx
   simp only[Option.map_eq_some_iff]at h;obtain ⟨q,hq,rfl⟩:=h;exact do_mm' hm hs hok hx hq
 | app s esz bytes x y =>
  simp only[eff]at h;split at h
  ·rename_i ys hys
   split at h
   ·rename_i hz
    split at h
    ·rename_i s' t z len hx
     split at h
     ·rename_i b hb
      split at h
      ·rename_i hn
       obtain ⟨n1,rfl,n3,n4,n5⟩:=hn;simp only[Option.some.injEq]at h;subst h;exact do_app_row hm hs hok hys hz hx hb n1 n3 n4 n5
      ·cases h
     ·cases h
    ·rename_i hx
     split at h
     ·rename_i hn
      simp only[Option.some.injEq]at h;subst h;exact do_app_nil hm hs (siteOk_app hsi) hok hys hz hx hn.1 hn.2
     ·cases h
    ·cases h
   ·cases h
  ·cases h
 | call f xs =>
  simp only[eff]at h;split at h
  ·rename_i vs hvs
   simp only[Option.map_eq_some_iff]at h;obtain ⟨r,hr,rfl⟩:=h;exact do_call hC hm hs hok (mapM_hide hvs) hr
  ·cases h
 | calli f xs =>
  simp only[eff]at h;split at h
  ·simp only[Option.map_eq_some_iff]at h
   obtain ⟨r,hr,rfl⟩:=h;exact do_calli hC hm hs hok ((calbE_spec hr).2 m.own fun _ _=>rfl)
  ·simp only[Option.map_eq_some_iff]at h
   obtain ⟨r,hr,rfl⟩:=h;exact do_calli hC hm hs hok hr
 | bad =>
  have h:(none:Option Eff)=some E:=h;cases h
 | mkm s=>simp only[eff,Option.some.injEq]at h;subst h;exact do_mkm hm hok
 | apf esz bytes x y =>
  simp only[eff]at h;split at h
  ·rename_i ys s t z hy hx
   split at h
   ·rename_i b hget
    split at h
    ·rename_i hc
     obtain ⟨c1,c2,c3,c4,c5⟩:=hc;obtain rfl:=Option.some.inj h;subst c3;exact do_apf hm hs hok hy c1 hx hget c2 c4 c5
    ·cases h
   ·cases h
  ·cases h
 | srt fs f esz x c =>
  simp only[eff]at h;split at h
  ·rename_i f' g hc
   split at h
   ·rename_i hg
    obtain ⟨c1,c2,c3⟩:=hg;subst c1 c2;split at h
    ·rename_i hx
     obtain rfl:=Option.some.inj h;exact do_srt_none hC hm hs hok hc c3 (fun v hv=>by rw[hx]at hv;exact ⟨none,0,cv_nil hv⟩)
    ·rename_i s t z len hx
     split at h
     ·rename_i b hget
      split at h
      ·rename_i hq
       obtain ⟨q1,q2,q3,q4⟩:=hq;subst q2;simp only[Option.map_eq_some_iff]at h;obtain ⟨es',he,rfl⟩:=h;exact do_srt hC hm hs hok hc c3 hx hget q1 q3 q4 (srtE_iff.1 he)
      ·cases h
     ·cases h
    ·cases h
   ·cases h
  ·cases h
 | mlk x k =>
  simp only[eff]at h;split at h
  ·rename_i s t b hx hkk
   split at h
   ·rename_i blk hget
    split at h
    ·rename_i hc
     simp only[Option.some.injEq]at h;subst h;exact do_mlk hm hs hok hx hkk (get_hide _ _ _ _ _ hget) (by simp only[maxLen];omega) (by simp only[maxLen];omega)
    ·cases h
   ·cases h
  ·cases h
 | mup x k v =>
  simp only[eff]at h;split at h
  ·rename_i s t b n hx hkk hvv
   split at h
   ·rename_i blk hget
    split at h
    ·rename_i hc
     obtain ⟨c1,c2,c3,c4⟩:=hc;simp only[Option.some.injEq]at h;subst h;exact do_mup hm hs hok hx hkk hvv hget (by simp only[maxLen];omega) (by simp only[maxLen];omega) (wf_i64 c3 c4)
    ·cases h
   ·cases h
  ·cases h
 | nck x =>
  simp only[eff]at h;split at h
  ·rename_i hx
   simp only[Option.some.injEq]at h;subst h;exact do_nck hm hs hok hx
  ·cases h
 | cals s f xs =>
  simp only[eff,Option.map_eq_some_iff]at h;obtain ⟨p,hp,rfl⟩:=h;exact do_calli hC hm hs (inv_cals hok) (calsE_iff.1 hp m.own rfl)
 | callq f xs =>
  simp only[eff]at h;split at h
  ·rename_i hq
   split at h
   ·rename_i r hr
    split at h
    ·rename_i hfl
     simp only[Option.some.injEq]at h;subst h;exact do_callq hC hm hs hok hq hr hfl
    ·cases h
   ·cases h
  ·cases h
 | callr s f xs =>
  simp only[eff]at h;split at h
  ·rename_i vs hvs
   simp only[Option.map_eq_some_iff]at h;obtain ⟨⟨z,es⟩,hr,rfl⟩:=h;exact do_callr hC hm hs (siteOk_lo hsi rfl) hok (mapN_hide hvs) hr
  ·cases h
 | appo s esz bytes x y =>
  simp only[eff]at h;split at h
  ·rename_i l ys s' t z len hy hx
   split at h
   ·rename_i b hb
    split at h
    ·rename_i hn
     obtain ⟨rfl,hz,n1,rfl,n3,n4,n5⟩:=hn;simp only[Option.some.injEq]at h;subst h;have:=do_app_row hm hs (inv_appo hok) (ys:=ys) (by rw[hy];rfl) hz hx hb n1 n3 n4 n5
     intro K Q hK;exact this K Q fun u m' h1 h2 h3 h4=>hK u m' h1 h2 h3 h4
    ·cases h
   ·cases h
  ·rename_i l ys hy hx
   split at h
   ·rename_i hn
    simp only[Option.some.injEq]at h;subst h;have:=do_app_nil hm hs (siteOk_lo hsi rfl) (inv_appo hok) (ys:=ys) (by rw[hy];rfl) hn.1 hx hn.2.1 hn.2.2
    intro K Q hK;exact this K Q fun u m' h1 h2 h3 h4=>hK u m' h1 h2 h3 h4
   ·cases h
  ·cases h
 | callv x xs =>
  simp only[eff]at h;split at h
  ·rename_i p f g cs hx
   split at h
   ·rename_i hg
    rw[hC.c.num]at hg;subst hg;split at h
    ·split at h
     ·rename_i vs hvs
      simp only[Option.map_eq_some_iff]at h;obtain ⟨r,hr,rfl⟩:=h;exact do_callp hC hm hs hok hx hvs hr
     ·cases h
    ·simp only[Option.map_eq_some_iff]at h
     obtain ⟨r,hr,rfl⟩:=h;exact do_callv hC hm hs hok hx hr
    ·split at h
     ·rename_i vs hvs
      simp only[Option.map_eq_some_iff]at h;obtain ⟨r,hr,rfl⟩:=h;exact do_callb hC hm hs hok hx hvs hr
     ·cases h
   ·cases h
  ·cases h
end
end Go.Eng
namespace Go.Eng
open Go.RowKit
def evT (T:Nat→AV):Opd→AV
 | .t n=>T n
 | .c v=>v
def setF (T:Nat→AV) (d:Option Nat) (v:AV):Nat→AV:=fun j=>if d=some j then v else T j
def guardT (T:Nat→AV):Option (Nat × Bool)→Option Bool
 | none=>some true
 | some (g,want)=>match T g with
  | .bool b=>some (b == want)
  | .tup []=>some false
  | _=>none
theorem ev_eq (st:St):st.ev=evT (tget st.tm):=by funext x;cases x<;>rfl
theorem guard_eq (st:St) (g:Option (Nat × Bool)):guardA st g=guardT (tget st.tm) g:=rfl
theorem dst_eq (st:St) (d:Option Nat) (v:AV):tget (st.dst d v).tm=setF (tget st.tm) d v:=by
 cases d with
 | none=>funext j;simp [St.dst,setF]
 | some d =>
  funext j
  simp only[St.dst,setF,tget_tput];by_cases h:j=d
  ·simp [h]
  ·simp [h,Ne.symm h]
theorem app_tm (st:St) (d:Option Nat) (E:Eff):tget (st.app d E).tm=setF (tget st.tm) d (E.valOf st.own):=by
 cases E<;>simp only[St.app,Eff.valOf]<;>exact dst_eq st d _
theorem dst_own (st:St) (d:Option Nat) (v:AV):(st.dst d v).own=st.own:=by cases d<;>rfl
theorem app_own (st:St) (d:Option Nat) (E:Eff):(st.app d E).own=E.ownOf st.own:=by
 cases E with
 | val v=>simp only[St.app,Eff.ownOf];exact dst_own st d v
 | _=>rfl
section
variable {B:Nat} {S:Nat→Prop} {w0:Base} {m0:M} {N:Nat}
variable {P:Program} {num:Nat→Nat} {C:Cl} {Q:Exit→Act→World→Prop}
structure FrOK (B:Nat) (S:Nat→Prop) (w0:Base) (m0:M) (N:Nat) (T:Nat→AV) (m:M) (a:Act):Prop where
 mem:MemOK B S w0 m
 ext:Ext B S m0 m
 tm : ∀ i,CV B S m (T i) (a.tmps.getD i undef)
 size:a.tmps.size=N
 defers:a.defers=[]
theorem FrOK.put {T:Nat→AV} {m m':M} {a:Act} (h:FrOK B S w0 m0 N T m a) (d:Option Nat) (hd : ∀ k,d=some k→k<N) {v:AV} {u:Value} (hm:MemOK B S w0 m') (he:Ext B S m m') (hc:CV B S m' v u):FrOK B S w0 m0 N (setF T d v) m' (a.put d u):=by
 refine ⟨hm,h.ext.trans he,fun i => ?_,?_,?_⟩
 ·cases d with
  | none=>simpa [setF,Act.put] using he.cv (h.tm i)
  | some k =>
   have hk:k<a.tmps.size:=by rw[h.size];exact hd k rfl
   by_cases hik:i=k
   ·subst hik
    simp only[setF,if_true,Act.put];simpa [Array.getD,hk] using hc
   ·have hne : ¬ (some k=some i):=fun e=>hik (by simpa using e.symm)
    simp only[setF,if_neg hne,Act.put];have:(a.tmps.setIfInBounds k u).getD i undef=a.tmps.getD i undef:=by
     simp [Array.getElem?_setIfInBounds_ne (Ne.symm hik)]
    rw[this];exact he.cv (h.tm i)
 ·cases d<;>simp [Act.put,h.size]
 ·cases d<;>simpa [Act.put] using h.defers
theorem FrOK.says {T:Nat→AV} {m:M} {a:Act} (h:FrOK B S w0 m0 N T m a):Says B S m (evT T) a.eval:=says_of (fun _=>rfl) (fun _=>rfl) h.tm
theorem wanted_of {T:Nat→AV} {m:M} {a:Act} (h:FrOK B S w0 m0 N T m a) {ops:Array Oper} {o:Oper} {g':Option (Nat × Bool)} (hg:okGuard ops o.guard g'=true) {g:Bool} (hgt:guardT T g'=some g):Region.wanted o (yielded ops a.tmps)=g:=by
 unfold Region.wanted;cases hog:o.guard with
 | none =>
  cases g' with
  | none=>simp [guardT]at hgt;simp [hgt]
  | some _=>simp [okGuard,hog]at hg
 | some jw =>
  obtain ⟨j,want⟩:=jw;cases g' with
  | none=>simp [okGuard,hog]at hg
  | some tw =>
   obtain ⟨t,want'⟩:=tw;simp only[okGuard,hog,Bool.and_eq_true,beq_iff_eq]at hg;obtain ⟨rfl,hg⟩:=hg;split at hg
   ·rename_i oj hoj
    have hdst:oj.dst=some t:=by simpa using hg
    have hcv:=h.tm t;simp only[guardT]at hgt;unfold yielded;simp only[hoj,Option.bind_some,hdst];split at hgt
    ·rename_i b hb
     rw[hb]at hcv;have hv:=cv_bool hcv;have hget:a.tmps[t]? = some (.bool b):=by
      cases ht:a.tmps[t]? with
      | none=>simp [ht,undef]at hv
      | some x=>simp [ht]at hv;rw[hv]
     simp only[hget];simp at hgt;rw[←hgt];cases b<;>cases want<;>rfl
    ·rename_i hb
     rw[hb]at hcv;obtain ⟨vs,hv,hl,_⟩:=cv_tup hcv;have:vs=[]:=List.eq_nil_of_length_eq_zero (by simpa using hl.symm)
     subst this;simp at hgt;subst hgt;cases ht:a.tmps[t]? with
     | none=>rfl
     | some x =>
      simp [ht]at hv;subst hv;rfl
    ·cases hgt
   ·cases hg
theorem wpOp_do {I:Keep} (hC:CallsAt I P num C B w0) {ops:Array Oper} {i:Nat} {o:Oper} {ai:AI} (hi:ops[i]? = some o) (hok:okI P num N ops o ai=true) {T:Nat→AV} {m:M} {a:Act} (hf:FrOK B S w0 m0 N T m a) {g:Bool} (hg:guardT T ai.guard=some g) {E:Eff}
  (hE:g=true→eff C ai.ban (evT T) m.own ai.op=some E) {K:Act→World→Prop} (hK : ∀ m' a',m'.own=(if g then E.ownOf m.own else m.own)→FrOK B S w0 m0 N (setF T ai.dst (if g then E.valOf m.own else .tup [])) m' a'→K a' m'.w):wpOp P ops Q i K a m.w:=by
 simp only[okI,Bool.and_eq_true,beq_iff_eq]at hok;obtain ⟨⟨⟨⟨h1,h2⟩,h3⟩,h4⟩,h5⟩:=hok;have hd : ∀ k,o.dst=some k→k<N:=fun k hk=>by
  rw[h1]at hk;rw[hk]at h2;simpa using h2
 unfold wpOp;simp only[hi,wanted_of hf h3 hg];cases g with
 | true =>
  simp only[if_true];refine .inl (eff_sound hC hf.mem hf.says h4 h5 (hE rfl) K Q fun u m' hown hm' hext hcv => ?_);refine hK m' _ (by simpa using hown) ?_;rw[←h1];exact hf.put o.dst hd hm' hext hcv
 | false =>
  simp only[Bool.false_eq_true,if_false];refine hK m _ (by simp) ?_;rw[←h1];exact hf.put o.dst hd hf.mem (Ext.refl m) mkUndef
theorem stepI_inv {o:AI} {st st':St} (h:stepI C o st=some st') : ∃ g E,guardT (tget st.tm) o.guard=some g∧(g=true→eff C o.ban (evT (tget st.tm)) st.own o.op=some E)∧tget st'.tm=setF (tget st.tm) o.dst (if g then E.valOf st.own else .tup [])∧st'.own=(if g then E.ownOf st.own else st.own):=by
 unfold stepI at h;rw[guard_eq]at h;cases hg:guardT (tget st.tm) o.guard with
 | none=>simp [hg]at h
 | some g =>
  cases g with
  | true =>
   simp only[hg,Option.map_eq_some_iff]at h;obtain ⟨E,hE,rfl⟩:=h;rw[ev_eq]at hE;exact ⟨true,E,rfl,fun _=>hE,app_tm st o.dst E,app_own st o.dst E⟩
  | false =>
   simp only[hg,Option.some.injEq]at h;subst h;exact ⟨false,.val .any,rfl,fun h=>(by cases h),dst_eq st o.dst _,dst_own st o.dst _⟩
theorem okL_get {ops:Array Oper} : ∀ {os:List Oper} {l:List AI},okL P num N ops os l=true→os.length=l.length ∧ ∀ (i:Nat) (o:Oper) (x:AI),os[i]? = some o→l[i]? = some x→okI P num N ops o x=true
 | [],[],_=>⟨rfl,fun i o x h=>by simp at h⟩
 | o::r,x::l,h=>by
  simp only[okL,Bool.and_eq_true]at h;obtain ⟨h1,h2⟩:=okL_get h.2;refine ⟨by simp [h1],fun i o' x' ho hx => ?_⟩;cases i with
  | zero=>simp at ho hx;subst ho hx;exact h.1
  | succ i=>exact h2 i o' x' (by simpa using ho) (by simpa using hx)
 | [],_::_,h=>by simp [okL]at h
 | _::_,[],h=>by simp [okL]at h
theorem wp_text {I:Keep} (hC:CallsAt I P num C B w0) {ops:Array Oper} {l:List AI} (hok:okL P num N ops ops.toList l=true) : ∀ (n k:Nat) (st st':St) (m:M) (a:Act),n+k=ops.size→stepL C (l.drop k) st=some st'→m.own=st.own→FrOK B S w0 m0 N (tget st.tm) m a →
  (∀ m' a',m'.own=st'.own→FrOK B S w0 m0 N (tget st'.tm) m' a'→Q .normal a' m'.w)→wpOps P ops Q (List.range' k n) a m.w
 | 0,k,st,st',m,a,hk,hs,hown,hf,hQ=>by
  have hl:=(okL_get hok).1;simp at hl;rw[List.drop_eq_nil_of_le (by omega)]at hs;simp only[stepL,Option.some.injEq]at hs;subst hs;simpa [wpOps] using hQ m a hown hf
 | n+1,k,st,st',m,a,hk,hs,hown,hf,hQ=>by
  obtain ⟨hl,hg⟩:=okL_get hok;simp at hl;have hkl:k<l.length:=by omega
  have hko:k<ops.size:=by omega
  rw[List.drop_eq_getElem_cons hkl]at hs;simp only[stepL]at hs;cases hst:stepI C l[k] st with
  | none=>simp [hst]at hs
  | some st1 =>
   simp only[hst]at hs;obtain ⟨g,E,h1,h2,h3,h4⟩:=stepI_inv hst;rw[List.range'_succ,wpOps_cons];have hoi:ops[k]? = some ops[k]:=Array.getElem?_eq_getElem hko;refine wpOp_do hC hoi (hg k ops[k] l[k] (by simp [hko]) (List.getElem?_eq_getElem hkl)) hf h1 (fun hg'=>by rw[hown];exact h2 hg') fun m' a' hown' hf' => ?_
   refine wp_text hC hok n (k+1) st1 st' m' a' (by omega) hs ?_ ?_ hQ
   ·rw[hown',hown,h4]
   ·rw[hown]at hf'
    rw[h3];exact hf'
end
end Go.Eng

namespace Go.Eng
open Go.RowKit
section
variable {T T':Nat→AV} {C:Cl} {ban:List Nat} {own:Own}
theorem opd_congr {x:Opd} (h : ∀ t∈opdT x,T t=T' t):evT T x=evT T' x:=by
 cases x with
 | t n=>exact h n (by simp [opdT])
 | c v=>rfl
theorem opds_congr {xs:List Opd} (h : ∀ t∈xs.flatMap opdT,T t=T' t):xs.map (evT T)=xs.map (evT T') :=
 List.map_congr_left fun x hx=>opd_congr fun t ht=>h t (List.mem_flatMap.2 ⟨x,hx,ht⟩)
theorem opt_congr {x:Option Opd} (h : ∀ t∈optT x,T t=T' t) {y:Opd} (hy:x=some y):evT T y=evT T' y:=by
 subst hy;exact opd_congr h
theorem eff_congr {op:AOp} (h : ∀ t∈usesA op,T t=T' t):eff C ban (evT T) own op=eff C ban (evT T') own op:=by
 cases op with
 | build z ps =>
  simp only[eff];congr 2;refine List.map_congr_left fun p hp => ?_
  rw[opd_congr (x:=p.2.2) fun t ht=>h t (by simp only[usesA];exact List.mem_flatMap.2 ⟨p,hp,ht⟩)]
 | bslice s esz ps =>
  have hm:ps.mapM (fun x=>cellsOf (evT T x))=ps.mapM (fun x=>cellsOf (evT T' x)):=by
   have e : ∀ l:List Opd,(∀ x∈l,evT T x=evT T' x)→l.mapM (fun x=>cellsOf (evT T x))=l.mapM (fun x=>cellsOf (evT T' x)):=by
    intro l;induction l with
    | nil=>intro _;rfl
    | cons x r ih=>intro hl;simp only[List.mapM_cons];rw[hl x (by simp),ih fun y hy=>hl y (by simp [hy])]
   exact e ps fun x hx=>opd_congr fun t ht=>h t (by simp only[usesA];exact List.mem_flatMap.2 ⟨x,hx,ht⟩)
  simp only[eff,hm]
 | mm mx xs=>simp only[eff];rw[opds_congr (xs:=xs) h]
 | call f xs=>simp only[eff];rw[opds_congr (xs:=xs) h]
 | calli f xs=>simp only[eff];rw[opds_congr (xs:=xs) h]
 | bad=>rfl
 | nck x=>simp only[eff];rw[opd_congr (x:=x) h]
 | mkm s=>rfl
 | apf esz bytes x y =>
  simp only[usesA,List.mem_append]at h;simp only[eff];rw[opd_congr (x:=x) fun t ht=>h t (.inl ht),opd_congr (x:=y) fun t ht=>h t (.inr ht)]
 | srt fs f esz x c =>
  simp only[usesA,List.mem_append]at h;simp only[eff];rw[opd_congr (x:=x) fun t ht=>h t (.inl ht),opd_congr (x:=c) fun t ht=>h t (.inr ht)]
 | mlk x k =>
  simp only[usesA,List.mem_append]at h;simp only[eff];rw[opd_congr (x:=x) fun t ht=>h t (.inl ht),opd_congr (x:=k) fun t ht=>h t (.inr ht)]
 | mup x k v =>
  simp only[usesA,List.mem_append]at h;simp only[eff];rw[opd_congr (x:=x) fun t ht=>h t (.inl (.inl ht)),opd_congr (x:=k) fun t ht=>h t (.inl (.inr ht)),opd_congr (x:=v) fun t ht=>h t (.inr ht)]
 | callq f xs=>simp only[eff];rw[opds_congr (xs:=xs) h]
 | callr s f xs=>simp only[eff];rw[opds_congr (xs:=xs) h]
 | cals s f xs=>simp only[eff];rw[opds_congr (xs:=xs) h]
 | callv x xs =>
  simp only[usesA,List.mem_append]at h;simp only[eff];rw[opd_congr (x:=x) fun t ht=>h t (.inl ht),opds_congr (xs:=xs) fun t ht=>h t (.inr ht)]
 | slc esz x lo hi =>
  simp only[usesA,List.mem_append]at h;have hx:evT T x=evT T' x:=opd_congr fun t ht=>h t (.inl (.inl ht))
  have hlo : ∀ y,lo=some y→evT T y=evT T' y:=fun y hy=>opt_congr (fun t ht=>h t (.inl (.inr ht))) hy
  have hhi : ∀ y,hi=some y→evT T y=evT T' y:=fun y hy=>opt_congr (fun t ht=>h t (.inr ht)) hy
  simp only[eff,hx];cases lo with
  | none=>cases hi with
   | none=>rfl
   | some y=>simp only[hhi y rfl]
  | some z=>cases hi with
   | none=>simp only[hlo z rfl]
   | some y=>simp only[hlo z rfl,hhi y rfl]
 | vrow=>rfl
 | alloc=>rfl
 | mov x=>simp only[eff];rw[opd_congr (x:=x) h]
 | un f x=>simp only[eff];rw[opd_congr (x:=x) h]
 | conv k x=>simp only[eff];rw[opd_congr (x:=x) h]
 | box s x=>simp only[eff];rw[opd_congr (x:=x) h]
 | fadr x off=>simp only[eff];rw[opd_congr (x:=x) h]
 | fld x off n agg=>simp only[eff];rw[opd_congr (x:=x) h]
 | ld agg n x=>simp only[eff];rw[opd_congr (x:=x) h]
 | ext x i=>simp only[eff];rw[opd_congr (x:=x) h]
 | len x=>simp only[eff];rw[opd_congr (x:=x) h]
 | pick c x y =>
  simp only[usesA,List.mem_append]at h;simp only[eff];rw[opd_congr (x:=c) fun t ht=>h t (.inl (.inl ht)),opd_congr (x:=x) fun t ht=>h t (.inl (.inr ht)),opd_congr (x:=y) fun t ht=>h t (.inr ht)]
 | bin f x y =>
  simp only[usesA,List.mem_append]at h;simp only[eff];rw[opd_congr (x:=x) fun t ht=>h t (.inl ht),opd_congr (x:=y) fun t ht=>h t (.inr ht)]
 | beq ne x y =>
  simp only[usesA,List.mem_append]at h;simp only[eff];rw[opd_congr (x:=x) fun t ht=>h t (.inl ht),opd_congr (x:=y) fun t ht=>h t (.inr ht)]
 | iadr arr esz x i =>
  simp only[usesA,List.mem_append]at h;simp only[eff];rw[opd_congr (x:=x) fun t ht=>h t (.inl ht),opd_congr (x:=i) fun t ht=>h t (.inr ht)]
 | st n x v =>
  simp only[usesA,List.mem_append]at h;simp only[eff];rw[opd_congr (x:=x) fun t ht=>h t (.inl ht),opd_congr (x:=v) fun t ht=>h t (.inr ht)]
 | mk s esz bytes z l c =>
  simp only[usesA,List.mem_append]at h;simp only[eff];rw[opd_congr (x:=l) fun t ht=>h t (.inl ht),opd_congr (x:=c) fun t ht=>h t (.inr ht)]
 | app s esz bytes x y =>
  simp only[usesA,List.mem_append]at h;simp only[eff];rw[opd_congr (x:=x) fun t ht=>h t (.inl ht),opd_congr (x:=y) fun t ht=>h t (.inr ht)]
 | appo s esz bytes x y =>
  simp only[usesA,List.mem_append]at h;simp only[eff];rw[opd_congr (x:=x) fun t ht=>h t (.inl ht),opd_congr (x:=y) fun t ht=>h t (.inr ht)]
theorem hide_eq (o:Own) (l:List Nat) (s:Nat):o.hide l s=if s∈l then ⟨0,fun _=>none⟩ else o s:=by
 induction l with
 | nil=>simp [Own.hide]
 | cons x r ih =>
  simp only[Own.hide,List.mem_cons];by_cases h:s=x
  ·simp [h]
  ·rw[if_neg h,ih]
   simp [h]
theorem hide_congr {o o':Own} {l:List Nat} (h : ∀ s,s ∉ l→o s=o' s):o.hide l=o'.hide l:=by
 funext s
 rw[hide_eq,hide_eq];split
 ·rfl
 ·rename_i hs;exact h s hs
end
section
variable {ops:Array Oper}
def inner (acc:Array Nat) (o:Oper):Nat:=o.after.foldl (fun s e=>if Region.binds .any e then s ||| 2^e.on ||| acc.getD e.on 0 else s) 0
theorem inner_bit (acc:Array Nat) (o:Oper) (j:Nat) (h:(inner acc o).testBit j=true) : ∃ e∈o.after,Region.binds .any e=true∧(e.on=j∨(acc.getD e.on 0).testBit j=true):=by
 unfold inner at h;rw[←Array.foldl_toList]at h;have key : ∀ (l:List Edge) (s:Nat),(l.foldl (fun s e=>if Region.binds .any e then s ||| 2^e.on ||| acc.getD e.on 0 else s) s).testBit j=true→s.testBit j=true ∨ ∃ e∈l,Region.binds .any e=true∧(e.on=j∨(acc.getD e.on 0).testBit j=true):=by
  intro l;induction l with
  | nil=>intro s hs;exact .inl hs
  | cons e r ih =>
   intro s hs;simp only[List.foldl_cons]at hs;rcases ih _ hs with h1|⟨e',he',h2⟩
   ·by_cases hb:Region.binds .any e=true
    ·simp only[hb,if_true,Nat.testBit_or,Bool.or_eq_true,Nat.testBit_two_pow,decide_eq_true_eq]at h1
     rcases h1 with (h1|h1)|h1
     ·exact .inl h1
     ·exact .inr ⟨e,by simp,hb,.inl h1⟩
     ·exact .inr ⟨e,by simp,hb,.inr h1⟩
    ·simp only[hb,Bool.false_eq_true,if_false]at h1
     exact .inl h1
   ·exact .inr ⟨e',by simp [he'],h2⟩
 rcases key _ _ h with h|⟨e,he,h⟩
 ·simp at h
 ·exact ⟨e,by simpa using he,h⟩
theorem before_bit (i j:Nat) (h:((Region.before ops).getD i 0).testBit j=true) : ∃ o,ops[i]? = some o ∧ ∃ e∈o.after,Region.binds .any e=true∧(e.on=j∨(e.on<i∧((Region.before ops).getD e.on 0).testBit j=true)):=by
 have key : ∀ (rest:List Oper) (done:List Oper) (acc:Array Nat),acc.size=done.length →
   (∀ i j,(acc.getD i 0).testBit j=true → ∃ o,done[i]? = some o ∧ ∃ e∈o.after,Region.binds .any e=true∧(e.on=j∨(e.on<i∧(acc.getD e.on 0).testBit j=true))) →
   ∀ i j,((rest.foldl (fun acc o=>acc.push (inner acc o)) acc).getD i 0).testBit j=true → ∃ o,(done++rest)[i]? = some o ∧ ∃ e∈o.after,Region.binds .any e=true∧(e.on=j∨(e.on<i∧((rest.foldl (fun acc o=>acc.push (inner acc o)) acc).getD e.on 0).testBit j=true)):=by
  intro rest;induction rest with
  | nil=>intro done acc hs hinv i j hj;simpa using hinv i j hj
  | cons o r ih =>
   intro done acc hs hinv i j hj;simp only[List.foldl_cons]at hj ⊢;have:=ih (done++[o]) (acc.push (inner acc o)) (by simp [hs]) (fun i j hij => ?_) i j hj
   ·simpa using this
   ·have hget : ∀ k,k<acc.size→(acc.push (inner acc o)).getD k 0=acc.getD k 0:=fun k hk=>by
     simp [Array.getD,hk,Nat.lt_succ_of_lt hk,Array.getElem_push_lt hk]
    by_cases hi:i<acc.size
    ·rw[hget i hi]at hij
     obtain ⟨o',ho',e,he,hb,hor⟩:=hinv i j hij;refine ⟨o',by rw[List.getElem?_append_left (by omega)];exact ho',e,he,hb,hor.imp id fun ⟨h1,h2⟩=>⟨h1,by rw[hget e.on (by omega)];exact h2⟩⟩
    ·have hie:i=acc.size:=by
      rcases Nat.lt_or_ge i (acc.push (inner acc o)).size with h1|h1
      ·simp at h1;omega
      ·have:(acc.push (inner acc o)).getD i 0=0:=by simp [Array.getD];intro h2;simp at h1;omega
       rw[this]at hij;simp at hij
     subst hie;have hnew:(acc.push (inner acc o)).getD acc.size 0=inner acc o:=by simp [Array.getD]
     rw[hnew]at hij;obtain ⟨e,he,hb,hor⟩:=inner_bit acc o j hij;refine ⟨o,by rw[hs];simp,e,he,hb,hor.imp id fun h2 => ?_⟩;have hlt:e.on<acc.size:=by
      rcases Nat.lt_or_ge e.on acc.size with h3|h3
      ·exact h3
      ·have:acc.getD e.on 0=0:=by simp [Array.getD];omega
       rw[this]at h2;simp at h2
     exact ⟨hlt,by rw[hget e.on hlt];exact h2⟩
 have hb:Region.before ops=ops.toList.foldl (fun acc o=>acc.push (inner acc o)) #[]:=by
  unfold Region.before;rw[←Array.foldl_toList];rfl
 rw[hb]at h ⊢;have:=key ops.toList [] #[] rfl (fun i j hij=>by simp at hij) i j h
 simpa using this
def Down (ops:Array Oper) (X:Nat→Bool):Prop := ∀ j o,X j=true→ops[j]? = some o → ∀ e∈o.after,Region.binds .any e=true→X e.on=true
theorem anc {X:Nat→Bool} (hX:Down ops X) : ∀ (i:Nat),(∀ o,ops[i]? = some o → ∀ e∈o.after,Region.binds .any e=true→X e.on=true) → ∀ j,((Region.before ops).getD i 0).testBit j=true→X j=true:=by
 intro i;induction i using Nat.strongRecOn with
 | ind i ih =>
  intro hi j hj;obtain ⟨o,ho,e,he,hb,hor⟩:=before_bit i j hj;have hx:=hi o ho e he hb;rcases hor with h|⟨hlt,h⟩
  ·rw[←h];exact hx
  ·exact ih e.on hlt (fun o' ho' e' he' hb'=>hX e.on o' hx ho' e' he' hb') j h
theorem ord_lt {X:Nat→Bool} (hX:Down ops X) {i j:Nat} (hi : ∀ o,ops[i]? = some o → ∀ e∈o.after,Region.binds .any e=true→X e.on=true) (hlt:j<i) (h:ordB (Region.before ops) i j=true):X j=true:=by
 unfold ordB at h;rw[Nat.max_eq_left (by omega),Nat.min_eq_right (by omega)]at h;exact anc hX i hi j h
theorem ord_gt {X:Nat→Bool} (hX:Down ops X) {i j:Nat} (hj:X j=true) (hlt:i<j) (h:ordB (Region.before ops) i j=true):X i=true:=by
 unfold ordB at h;rw[Nat.max_eq_right (by omega),Nat.min_eq_left (by omega)]at h;exact anc hX j (fun o ho e he hb=>hX j o hj ho e he hb) i h
end
section
variable {C:Cl}
abbrev D:=(Nat→AV) × Own
structure Rcd where
 d:Option Nat
 g:Bool
 E:Eff
 v:AV
def Rcd.own (r:Rcd) (o:Own):Own:=if r.g then r.E.ownOf o else o
def Rcd.act (r:Rcd) (x:D):D:=(setF x.1 r.d r.v,r.own x.2)
structure Fits (C:Cl) (x:AI) (r:Rcd) (s s':St):Prop where
 d:r.d=x.dst
 g:guardT (tget s.tm) x.guard=some r.g
 E:r.g=true→eff C x.ban (evT (tget s.tm)) s.own x.op=some r.E
 v:r.v=(if r.g then r.E.valOf s.own else .tup [])
 act:(tget s'.tm,s'.own)=r.act (tget s.tm,s.own)
theorem trace : ∀ {l:List AI} {st st':St},stepL C l st=some st' → ∃ (σ:Nat→St) (rs:List Rcd),σ 0=st∧σ l.length=st'∧rs.length=l.length ∧ ∀ (k:Nat) (x:AI) (r:Rcd),l[k]? = some x→rs[k]? = some r→Fits C x r (σ k) (σ (k+1))
 | [],st,st',h=>by
  simp only[stepL,Option.some.injEq]at h;subst h;exact ⟨fun _=>st,[],rfl,rfl,rfl,fun k x r hx=>by simp at hx⟩
 | o::q,st,st',h=>by
  simp only[stepL]at h;cases hs:stepI C o st with
  | none=>simp [hs]at h
  | some st1 =>
   simp only[hs]at h;obtain ⟨σ,rs,h0,h1,hl,h2⟩:=trace h;obtain ⟨g,E,e1,e2,e3,e4⟩:=stepI_inv hs;refine ⟨fun k=>match k with|0=>st|k+1=>σ k,⟨o.dst,g,E,if g then E.valOf st.own else .tup []⟩::rs,rfl,h1,by simp [hl],fun k x r hx hr => ?_⟩;cases k with
   | zero =>
    simp at hx hr;subst hx hr;refine ⟨rfl,e1,e2,rfl,?_⟩;show (tget (σ 0).tm,(σ 0).own)=_;rw[h0,e3,e4];rfl
   | succ k=>exact h2 k x r (by simpa using hx) (by simpa using hr)
def foldX (X:Nat→Bool):List Rcd→Nat→D→D
 | [],_,x=>x
 | r::rs,k,x=>foldX X rs (k+1) (if X k then r.act x else x)
theorem foldX_append (X:Nat→Bool) : ∀ (l l':List Rcd) (k:Nat) (x:D),foldX X (l++l') k x=foldX X l' (k+l.length) (foldX X l k x)
 | [],l',k,x=>by simp [foldX]
 | r::rs,l',k,x=>by
  simp only[List.cons_append,foldX,List.length_cons];rw[foldX_append X rs l' (k+1)];congr 1;omega
theorem foldX_slot {X Y:Nat→Bool} {t:Nat} : ∀ (l:List Rcd) (k:Nat) (x y:D),x.1 t=y.1 t→(∀ i r,l[i]? = some r→r.d=some t→X (k+i)=Y (k+i))→(foldX X l k x).1 t=(foldX Y l k y).1 t
 | [],k,x,y,h,_=>h
 | r::rs,k,x,y,h,hXY=>by
  simp only[foldX];refine foldX_slot rs (k+1) _ _ ?_ fun i r' hr hd=>by
   have:=hXY (i+1) r' (by simpa using hr) hd
   rw[show k+1+i=k+(i+1) by omega];exact this
  by_cases hd:r.d=some t
  ·have hx:X k=Y k:=by simpa using hXY 0 r rfl hd
   rw[hx];cases Y k
   ·simpa using h
   ·simp [Rcd.act,setF,hd]
  ·have e1 : ∀ z:D,(r.act z).1 t=z.1 t:=fun z=>by simp [Rcd.act,setF,hd]
   cases X k<;>cases Y k<;>simp [e1,h]
theorem ownOf_local (E:Eff) (s:Nat) (o o':Own) (h:o s=o' s):E.ownOf o s=E.ownOf o' s:=by
 cases E with
 | val v=>exact h
 | new s' b v =>
  simp only[Eff.ownOf,Own.put];by_cases hs:s=s'
  ·subst hs;simp [h]
  ·simp [hs,h]
 | vir s' b v =>
  simp only[Eff.ownOf,Own.put];by_cases hs:s=s'
  ·subst hs;simp [h]
  ·simp [hs,h]
 | tur v o2=>rfl
 | tub s' v o2 =>
  simp only[Eff.ownOf,Own.put];by_cases hs:s=s'
  ·subst hs;simp [h]
  ·simp [hs]
 | upn s' x v =>
  simp only[Eff.ownOf,Own.put];by_cases hs:s=s'
  ·simp [hs]
  ·simp [hs,h]
 | upd s' x =>
  simp only[Eff.ownOf,Own.put];by_cases hs:s=s'
  ·simp [hs]
  ·simp [hs,h]
theorem foldX_site {X Y:Nat→Bool} {s:Nat} : ∀ (l:List Rcd) (k:Nat) (x y:D),x.2 s=y.2 s→(∀ i r,l[i]? = some r→X (k+i)=Y (k+i) ∨ ∀ o,r.own o s=o s)→(foldX X l k x).2 s=(foldX Y l k y).2 s
 | [],k,x,y,h,_=>h
 | r::rs,k,x,y,h,hXY=>by
  simp only[foldX];refine foldX_site rs (k+1) _ _ ?_ fun i r' hr=>by
   have:=hXY (i+1) r' (by simpa using hr)
   rw[show k+1+i=k+(i+1) by omega];exact this
  rcases hXY 0 r rfl with hx|hx
  ·simp only[Nat.add_zero]at hx
   rw[hx];cases Y k
   ·simpa using h
   ·simp only[if_true,Rcd.act,Rcd.own]
    cases r.g
    ·simpa using h
    ·simpa using ownOf_local r.E s _ _ h
  ·have e1 : ∀ z:D,(r.act z).2 s=z.2 s:=fun z=>hx z.2
   cases X k<;>cases Y k<;>simp [e1,h]
theorem foldX_comm {X:Nat→Bool} (q:Rcd) : ∀ (l:List Rcd) (k:Nat) (x:D),(∀ i r,l[i]? = some r→X (k+i)=true → ∀ z,r.act (q.act z)=q.act (r.act z))→foldX X l k (q.act x)=q.act (foldX X l k x)
 | [],k,x,_=>rfl
 | r::rs,k,x,h=>by
  simp only[foldX];have hrest : ∀ i r',rs[i]? = some r'→X (k+1+i)=true → ∀ z,r'.act (q.act z)=q.act (r'.act z):=fun i r' hr hX=>h (i+1) r' (by simpa using hr) (by rw[show k+(i+1)=k+1+i by omega];exact hX)
  cases hk:X k
  ·simp only[Bool.false_eq_true,if_false]
   exact foldX_comm q rs (k+1) x hrest
  ·simp only[if_true]
   rw[h 0 r rfl (by simpa using hk)];exact foldX_comm q rs (k+1) _ hrest
theorem foldX_congr {X Y:Nat→Bool} : ∀ (l:List Rcd) (k:Nat) (x:D),(∀ i,i<l.length→X (k+i)=Y (k+i))→foldX X l k x=foldX Y l k x
 | [],_,_,_=>rfl
 | r::rs,k,x,h=>by
  simp only[foldX];rw[show X k=Y k by simpa using h 0 (by simp)];exact foldX_congr rs (k+1) _ fun i hi=>by
   have:=h (i+1) (by simpa using hi)
   rw[show k+1+i=k+(i+1) by omega];exact this
theorem foldX_insert {X X':Nat→Bool} {l:List Rcd} {i:Nat} {q:Rcd} (hq:l[i]? = some q) (hXi:X i=false) (hX' : ∀ j,X' j=(decide (j=i)||X j)) (x:D) (hcomm : ∀ j r,l[j]? = some r→i<j→X j=true → ∀ z,r.act (q.act z)=q.act (r.act z)) :
  foldX X' l 0 x=q.act (foldX X l 0 x):=by
 have hil:i<l.length:=(List.getElem?_eq_some_iff.1 hq).1;have hli:l=l.take i++(q::l.drop (i+1)):=by
  have:l.drop i=q::l.drop (i+1):=by
   rw[List.drop_eq_getElem_cons hil];congr 1;have:=(List.getElem?_eq_some_iff.1 hq).2
   exact this
  rw[←this,List.take_append_drop]
 have htl:(l.take i).length=i:=by simp;omega
 rw[hli,foldX_append,foldX_append,htl,Nat.zero_add];simp only[foldX,hXi,Bool.false_eq_true,if_false];rw[show X' i=true by rw[hX'];simp];simp only[if_true];rw[foldX_congr (X:=X') (Y:=X) (l.take i) 0 x (fun j hj=>by rw[hX'];simp;omega)];rw[foldX_congr (X:=X') (Y:=X) (l.drop (i+1)) (i+1) _ (fun j hj=>by rw[hX'];simp;omega)];refine foldX_comm q _ _ _ fun j r hr hXj => ?_
 rw[List.getElem?_drop]at hr;exact hcomm (i+1+j) r hr (by omega) hXj
end
end Go.Eng

namespace Go.Eng
open Go.RowKit
section
variable {C:Cl} {ban:List Nat} {ρ:Opd→AV}
theorem eff_own {op:AOp} (o o':Own) (ht:turnsMem op=false) (hr:readsMem op=true→o.hide ban=o'.hide ban) (hst : ∀ s,siteOf op=some s→o s=o' s):eff C ban ρ o op=eff C ban ρ o' op:=by
 cases op with
 | appo s esz bytes x y =>
  have h1:=hst s rfl;have hg : ∀ t,o.get s t=o'.get s t:=fun t=>by unfold Own.get;rw[h1]
  simp only[eff,hg,Own.cnt,h1]
 | ld agg n x=>have:=hr rfl;simp only[eff,this]
 | call f xs=>have:=hr rfl;simp only[eff,this]
 | mlk x k=>have:=hr rfl;simp only[eff,this]
 | mkm=>simp [turnsMem]at ht
 | apf=>simp [turnsMem]at ht
 | srt=>simp [turnsMem]at ht
 | mup=>simp [turnsMem]at ht
 | callr s f xs=>have:=hr rfl;simp only[eff,this]
 | cals s f xs=>have h1:=hst s rfl;simp only[eff,h1]
 | st=>simp [turnsMem]at ht
 | app=>simp [turnsMem]at ht
 | calli=>simp [turnsMem]at ht
 | callv=>simp [turnsMem]at ht
 | _=>rfl
theorem eff_site {op:AOp} {o:Own} {E:Eff} (h:eff C ban ρ o op=some E) {s:Nat} (hs:siteOf op=some s):(∃ b v,E = .new s b v∨E = .vir s b v) ∨ ∃ x v,E = .upd s x∨E = .upn s x v:=by
 cases op with
 | appo s' esz bytes x y =>
  simp only[siteOf,Option.some.injEq]at hs;subst hs;simp only[eff]at h;split at h
  ·split at h
   ·split at h
    ·simp only[Option.some.injEq]at h;exact .inr ⟨_,_,.inr h.symm⟩
    ·cases h
   ·cases h
  ·split at h
   ·simp only[Option.some.injEq]at h;exact .inr ⟨_,_,.inr h.symm⟩
   ·cases h
  ·cases h
 | callr s' f xs =>
  simp only[siteOf,Option.some.injEq]at hs;subst hs;simp only[eff]at h;split at h
  ·simp only[Option.map_eq_some_iff]at h
   obtain ⟨r,_,rfl⟩:=h;exact .inl ⟨_,_,.inl rfl⟩
  ·cases h
 | cals s' f xs =>
  simp only[siteOf,Option.some.injEq]at hs;subst hs;simp only[eff,Option.map_eq_some_iff]at h;obtain ⟨p,_,rfl⟩:=h;exact .inr ⟨_,_,.inr rfl⟩
 | vrow s' z =>
  simp only[siteOf,Option.some.injEq]at hs;subst hs;simp only[eff,Option.some.injEq]at h;exact .inl ⟨_,_,.inr h.symm⟩
 | box s' x =>
  simp only[siteOf,Option.some.injEq]at hs;subst hs;simp only[eff]at h;split at h
  ·simp only[Option.some.injEq]at h;exact .inl ⟨_,_,.inl h.symm⟩
  ·cases h
 | alloc s' z =>
  simp only[siteOf,Option.some.injEq]at hs;subst hs;simp only[eff,Option.some.injEq]at h;exact .inl ⟨_,_,.inl h.symm⟩
 | bslice s' esz ps =>
  simp only[siteOf,Option.some.injEq]at hs;subst hs;simp only[eff]at h;split at h
  ·split at h
   ·simp only[Option.some.injEq]at h;exact .inl ⟨_,_,.inl h.symm⟩
   ·cases h
  ·cases h
 | mk s' esz bytes z l c =>
  simp only[siteOf,Option.some.injEq]at hs;subst hs;simp only[eff]at h;split at h
  ·split at h
   ·simp only[Option.some.injEq]at h;exact .inl ⟨_,_,.inl h.symm⟩
   ·cases h
  ·cases h
 | _=>simp [siteOf]at hs
theorem map_val {α:Type} {x:Option α} {f:α→AV} {E:Eff} (h:x.map (fun y=>Eff.val (f y))=some E) : ∃ v,E = .val v:=by
 cases x with
 | none=>cases h
 | some y=>simp only[Option.map_some,Option.some.injEq]at h;exact ⟨_,h.symm⟩
theorem eff_val {op:AOp} {o:Own} {E:Eff} (h:eff C ban ρ o op=some E) (ht:turnsMem op=false) (hs:siteOf op=none) : ∃ v,E = .val v:=by
 cases op<;>first|(simp [turnsMem]at ht;done)|(simp [siteOf]at hs;done)|skip
 all_goals simp only[eff]at h
 all_goals
  first
   | (simp only[Option.some.injEq]at h;exact ⟨_,h.symm⟩)
   | exact map_val (f:=id) h
   | skip
 all_goals (repeat' split at h)
 all_goals
  first
   | (cases h;done)
   | (simp only[Option.some.injEq]at h;exact ⟨_,h.symm⟩)
   | exact map_val (f:=id) h
   | exact map_val (f:=AV.agg) h
   | (simp only[Option.map_eq_some_iff]at h;obtain ⟨cs,_,rfl⟩:=h;exact ⟨_,rfl⟩)
theorem rcd_id {x:AI} {r:Rcd} {s s':St} (h:Fits C x r s s') (ht:turnsMem x.op=false) (hs:siteOf x.op=none) (o:Own):r.own o=o:=by
 unfold Rcd.own;cases hg:r.g with
 | false=>rfl
 | true =>
  obtain ⟨v,hv⟩:=eff_val (h.E hg) ht hs;simp [hv,Eff.ownOf]
theorem rcd_site {x:AI} {r:Rcd} {s s':St} (h:Fits C x r s s') {q:Nat} (hs:siteOf x.op=some q):(∀ o,r.own o=o) ∨ ∃ F:Site→Site,∀ o:Own,r.own o=o.put q (F (o q)):=by
 unfold Rcd.own;cases hg:r.g with
 | false=>exact .inl fun _=>rfl
 | true =>
  rcases eff_site (h.E hg) hs with ⟨b,v,hv|hv⟩|⟨x,v,hv|hv⟩
  ·exact .inr ⟨fun q=>q.new b,fun o=>by simp [hv,Eff.ownOf]⟩
  ·exact .inr ⟨fun q=>q.new b,fun o=>by simp [hv,Eff.ownOf]⟩
  ·exact .inr ⟨fun _=>x,fun o=>by simp [hv,Eff.ownOf]⟩
  ·exact .inr ⟨fun _=>x,fun o=>by simp [hv,Eff.ownOf]⟩
theorem rcd_far {x:AI} {r:Rcd} {s s':St} (h:Fits C x r s s') {q:Nat} (hs:siteOf x.op=some q) {p:Nat} (hp:p≠q) (o:Own):r.own o p=o p:=by
 rcases rcd_site h hs with h1|⟨b,h1⟩
 ·rw[h1]
 ·rw[h1];simp [Own.put,hp]
theorem keepS_inv {x:AI} {s:Nat} (h:keepS x=some s) : ∃ f xs,x.op = .calli f xs∧x.ban=[s]:=by
 unfold keepS at h;split at h
 ·rename_i f xs s' h1 h2
  obtain rfl:=Option.some.inj h;exact ⟨f,xs,h1,h2⟩
 ·cases h
theorem kept_inv {x y:AI} (h:keptB x y=true) : ∃ s,keepS x=some s∧siteOf y.op=some s∧turnsMem y.op=false∧readsMem y.op=false:=by
 unfold keptB at h;split at h
 ·rename_i s hs
  simp only[Bool.and_eq_true,beq_iff_eq,Bool.not_eq_true']at h;exact ⟨s,hs,h.1,h.2.1,h.2.2⟩
 ·cases h
theorem calbE_congr {f:Nat} {vs:List AV} {s:Nat} {o o':Own} (h : ∀ q,q≠s→o q=o' q):calbE C f vs s o=calbE C f vs s o':=by
 have e:(fun p:AV × Own => ∀ u:Own,(∀ q,q≠s→u q=o q)→C.inn f vs u=some (p.1,p.2.put s (u s)))=fun p:AV × Own => ∀ u:Own,(∀ q,q≠s→u q=o' q)→C.inn f vs u=some (p.1,p.2.put s (u s)):=by
  funext p
  refine propext ⟨fun g u hu=>g u fun q hq=>by rw[hu q hq,h q hq],fun g u hu=>g u fun q hq=>by rw[hu q hq,h q hq]⟩
 cases h1:calbE C f vs s o with
 | some p =>
  have h2:=calbE_spec h1;exact (calbE_iff h2.1 fun u hu=>h2.2 u fun q hq=>by rw[hu q hq,h q hq]).symm
 | none =>
  cases h3:calbE C f vs s o' with
  | none=>rfl
  | some p =>
   have h2:=calbE_spec h3;rw[calbE_iff h2.1 fun u hu=>h2.2 u fun q hq=>by rw[hu q hq,h q hq]]at h1;cases h1
theorem eff_keep {x:AI} {s:Nat} (hk:keepS x=some s) {o:Own} {E:Eff} (h:eff C x.ban ρ o x.op=some E) : ∃ v o',E = .tub s v o':=by
 obtain ⟨f,xs,h1,h2⟩:=keepS_inv hk;rw[h1,h2]at h;simp only[eff,Option.map_eq_some_iff]at h;obtain ⟨p,_,rfl⟩:=h;exact ⟨_,_,rfl⟩
theorem rcd_keep {x:AI} {r:Rcd} {s s':St} (h:Fits C x r s s') {q:Nat} (hk:keepS x=some q):(∀ o,r.own o=o) ∨ ∃ o':Own,∀ o:Own,r.own o=o'.put q (o q):=by
 unfold Rcd.own;cases hg:r.g with
 | false=>exact .inl fun _=>rfl
 | true =>
  obtain ⟨v,o',hv⟩:=eff_keep hk (h.E hg);exact .inr ⟨o',fun o=>by simp [hv,Eff.ownOf]⟩
theorem ordB_comm (b:Array Nat) (i j:Nat):ordB b i j=ordB b j i:=by unfold ordB;rw[Nat.max_comm,Nat.min_comm]
theorem draw_pair {ops:Array Oper} {l:List AI} (h:drawOk ops l=true) {i j:Nat} {x y:AI} (hx:l[i]? = some x) (hy:l[j]? = some y) (hne:i≠j) :
  (ordB (Region.before ops) i j=true∨((∀ t,y.dst=some t→t ∉ looksA x)∧(turnsMem x.op=false∨meetsMem y.op=false∨keptB x y=true)∧(readsMem x.op=true → ∀ s,siteOf y.op=some s→s∈x.ban))) ∧
  (ordB (Region.before ops) i j=true ∨ ∀ s s',siteOf x.op=some s→siteOf y.op=some s'→s≠s'):=by
 simp only[drawOk,Bool.and_eq_true]at h;have h1:=h.1.1;rw[List.all_eq_true]at h1;have hxm:(x,i)∈l.zipIdx:=List.mem_zipIdx_iff_getElem?.2 hx;have hym:(y,j)∈l.zipIdx:=List.mem_zipIdx_iff_getElem?.2 hy;have h2:=h1 (x,i) hxm;simp only at h2;rw[List.all_eq_true]at h2;have h3:=h2 (y,j) hym;simp only[Bool.and_eq_true,Bool.or_eq_true,beq_iff_eq,hne,false_or]at h3;obtain ⟨h4,h5⟩:=h3;refine ⟨?_,h5.imp id fun h5 s s' hs hs' => ?_⟩
 ·unfold pairOk at h4
  simp only[Bool.or_eq_true,beq_iff_eq,hne,false_or]at h4;refine h4.imp id fun h6 => ?_
  simp only[Bool.and_eq_true,Bool.or_eq_true,Bool.not_eq_true']at h6;obtain ⟨⟨h7,h8⟩,h9⟩:=h6;refine ⟨fun t ht => ?_,or_assoc.1 h8,fun hr s hs => ?_⟩
  ·rw[ht]at h7
   simpa using h7
  ·rw[hr,hs]at h9
   simpa using h9
 ·rw[hs,hs']at h5
  simpa using h5
structure Drawn (C:Cl) (ops:Array Oper) (l:List AI) (σ:Nat→St) (rs:List Rcd):Prop where
 ok:drawOk ops l=true
 len:rs.length=l.length
 fits : ∀ (k:Nat) (x:AI) (r:Rcd),l[k]? = some x→rs[k]? = some r→Fits C x r (σ k) (σ (k+1))
variable {ops:Array Oper} {l:List AI} {σ:Nat→St} {rs:List Rcd}
theorem foldX_none {X:Nat→Bool} : ∀ (l:List Rcd) (k:Nat) (x:D),(∀ i,i<l.length→X (k+i)=false)→foldX X l k x=x
 | [],_,_,_=>rfl
 | r::q,k,x,h=>by
  simp only[foldX];rw[show X k=false by simpa using h 0 (by simp)];exact foldX_none q (k+1) _ fun i hi=>by
   have:=h (i+1) (by simpa using hi)
   rw[show k+1+i=k+(i+1) by omega];exact this
def d0 (σ:Nat→St):D:=(tget (σ 0).tm,(σ 0).own)
theorem drawn_text (h:Drawn C ops l σ rs) : ∀ k,k≤l.length→foldX (fun j=>decide (j<k)) rs 0 (d0 σ)=(tget (σ k).tm,(σ k).own)
 | 0,_=>foldX_none rs 0 _ fun i _=>by simp
 | k+1,hk=>by
  have hkl:k<l.length:=by omega
  have hkr:k<rs.length:=by rw[h.len];exact hkl
  have hr:rs[k]? = some rs[k]:=List.getElem?_eq_getElem hkr;have hf:=h.fits k l[k] rs[k] (List.getElem?_eq_getElem hkl) hr;rw[foldX_insert (X:=fun j=>decide (j<k)) (X':=fun j=>decide (j<k+1)) hr (by simp) (fun j=>by
   by_cases h1:j=k
   ·simp [h1]
   ·simp [h1];omega) _ (fun j r' _ hlt hX=>by simp at hX;omega),drawn_text h k (by omega)]
  exact hf.act.symm
section
variable {X:Nat→Bool} {i:Nat} {x:AI} {r:Rcd}
theorem ord_iff (hX:Down ops X) (hXi:X i=false) (hready : ∀ o,ops[i]? = some o → ∀ e∈o.after,Region.binds .any e=true→X e.on=true) {j:Nat} (hne:i≠j) (ho:ordB (Region.before ops) i j=true):X j=decide (j<i):=by
 rcases Nat.lt_or_gt_of_ne hne with hlt|hgt
 ·have:X j=false:=by
   cases hj:X j with
   | false=>rfl
   | true=>have:=ord_gt hX hj hlt ho;rw[hXi]at this;cases this
  rw[this];simp;omega
 ·rw[ord_lt hX hready hgt ho];simp;omega
theorem drawn_step (h:Drawn C ops l σ rs) (hx:l[i]? = some x) (hr:rs[i]? = some r) (hX:Down ops X) (hXi:X i=false) (hready : ∀ o,ops[i]? = some o → ∀ e∈o.after,Region.binds .any e=true→X e.on=true) :
  guardT (foldX X rs 0 (d0 σ)).1 x.guard=some r.g∧(r.g=true→eff C x.ban (evT (foldX X rs 0 (d0 σ)).1) (foldX X rs 0 (d0 σ)).2 x.op=some r.E) ∧
  (if r.g then r.E.valOf (foldX X rs 0 (d0 σ)).2 else .tup [])=r.v ∧
  ∀ X':Nat→Bool,(∀ j,X' j=(decide (j=i)||X j))→foldX X' rs 0 (d0 σ)=r.act (foldX X rs 0 (d0 σ)):=by
 have hil:i<l.length:=(List.getElem?_eq_some_iff.1 hx).1;have hf:=h.fits i x r hx hr;have htext:=drawn_text h i (by omega);generalize hT:foldX X rs 0 (d0 σ)=TX;have hat : ∀ (j:Nat) (r':Rcd),rs[j]? = some r' → ∃ y,l[j]? = some y∧Fits C y r' (σ j) (σ (j+1)):=fun j r' hj=>by
  have hjl:j<l.length:=by rw[←h.len];exact (List.getElem?_eq_some_iff.1 hj).1
  exact ⟨l[j],List.getElem?_eq_getElem hjl,h.fits j _ _ (List.getElem?_eq_getElem hjl) hj⟩
 have hslot : ∀ t∈looksA x,TX.1 t=tget (σ i).tm t:=fun t ht=>by
  have:=foldX_slot (X:=X) (Y:=fun j=>decide (j<i)) (t:=t) rs 0 (d0 σ) (d0 σ) rfl (fun j r' hj hd=>by
   simp only[Nat.zero_add];by_cases hne:i=j
   ·subst hne;simp [hXi]
   ·obtain ⟨y,hy,hfy⟩:=hat j r' hj
    rcases (draw_pair h.ok hx hy hne).1 with ho|⟨h1,_⟩
    ·exact ord_iff hX hXi hready hne ho
    ·exact absurd ht (h1 t (by rw[←hfy.d];exact hd)))
  rw[hT,htext]at this;exact this
 have huses : ∀ t∈usesA x.op,TX.1 t=tget (σ i).tm t:=fun t ht=>hslot t (by simp [looksA,ht])
 have hsite : ∀ s,(∀ (j:Nat) (y:AI) (r':Rcd),i≠j→l[j]? = some y→rs[j]? = some r'→ordB (Region.before ops) i j=true ∨ ∀ o,r'.own o s=o s)→TX.2 s=(σ i).own s:=fun s hs=>by
  have:=foldX_site (X:=X) (Y:=fun j=>decide (j<i)) (s:=s) rs 0 (d0 σ) (d0 σ) rfl (fun j r' hj=>by
   simp only[Nat.zero_add];by_cases hne:i=j
   ·subst hne;left;simp [hXi]
   ·obtain ⟨y,hy,hfy⟩:=hat j r' hj
    rcases hs j y r' hne hy hj with ho|ho
    ·exact .inl (ord_iff hX hXi hready hne ho)
    ·exact .inr ho)
  rw[hT,htext]at this;exact this
 have hidle : ∀ (j:Nat) (y:AI) (r':Rcd),l[j]? = some y→rs[j]? = some r'→meetsMem y.op=false → ∀ o,r'.own o=o:=fun j y r' hy hj hm o=>by
  simp only[meetsMem,Bool.or_eq_false_iff]at hm;exact rcd_id (h.fits j y r' hy hj) hm.1.1 (by simpa using hm.2) o
 have hrev : ∀ (j:Nat) (y:AI),i≠j→l[j]? = some y→turnsMem y.op=true→meetsMem x.op=true→ordB (Region.before ops) i j=true∨keptB y x=true:=fun j y hne hy ht hmx=>by
  rcases (draw_pair h.ok hy hx (Ne.symm hne)).1 with ho|⟨_,h2,_⟩
  ·rw[ordB_comm];exact .inl ho
  ·rw[ht,hmx]at h2
   simp only[Bool.true_eq_false,false_or]at h2;exact .inr h2
 have hg:guardT TX.1 x.guard=some r.g:=by
  rw[←hf.g];cases hgd:x.guard with
  | none=>rfl
  | some gw =>
   obtain ⟨g,w⟩:=gw;simp only[guardT];rw[hslot g (by simp [looksA,hgd])]
 have hturn:turnsMem x.op=true → ∀ s,keepS x≠some s→TX.2 s=(σ i).own s:=fun ht s hks=>by
  refine hsite s fun j y r' hne hy hj => ?_
  cases hm:meetsMem y.op with
  | false=>exact .inr fun o=>by rw[hidle j y r' hy hj hm o]
  | true =>
   rcases (draw_pair h.ok hx hy hne).1 with ho|⟨_,h2,_⟩
   ·exact .inl ho
   ·rw[ht,hm]at h2
    simp only[Bool.true_eq_false,false_or]at h2;obtain ⟨q,k1,k2,k3,_⟩:=kept_inv h2;exact .inr fun o=>rcd_far (h.fits j y r' hy hj) k2 (p:=s) (fun e=>hks (by rw[e];exact k1)) o
 have hturn0:turnsMem x.op=true→keepS x=none→TX.2=(σ i).own:=fun ht hn=>by
  funext s
  exact hturn ht s (by rw[hn];simp)
 have hread:readsMem x.op=true→TX.2.hide x.ban=(σ i).own.hide x.ban:=fun hrd=>by
  refine hide_congr fun s hs=>hsite s fun j y r' hne hy hj => ?_
  have hmx:meetsMem x.op=true:=by simp [meetsMem,hrd]
  cases ht:turnsMem y.op with
  | true =>
   refine .inl ((hrev j y hne hy ht hmx).resolve_right fun hk => ?_);obtain ⟨_,_,_,_,k4⟩:=kept_inv hk;rw[hrd]at k4;cases k4
  | false =>
   cases hsy:siteOf y.op with
   | none=>exact .inr fun o=>by rw[rcd_id (h.fits j y r' hy hj) ht hsy o]
   | some q =>
    rcases (draw_pair h.ok hx hy hne).1 with ho|⟨_,_,h3⟩
    ·exact .inl ho
    ·exact .inr fun o=>rcd_far (h.fits j y r' hy hj) hsy (p:=s) (fun e=>hs (by rw[e];exact h3 hrd q hsy)) o
 have hsame : ∀ s,siteOf x.op=some s→TX.2 s=(σ i).own s:=fun s hsx=>by
  have hmx:meetsMem x.op=true:=by simp [meetsMem,hsx]
  exact hsite s fun j y r' hne hy hj=>by
   cases ht:turnsMem y.op with
   | true =>
    rcases hrev j y hne hy ht hmx with ho|hk
    ·exact .inl ho
    ·obtain ⟨q,k1,k2,_,_⟩:=kept_inv hk
     obtain rfl:q=s:=Option.some.inj (k2.symm.trans hsx);rcases rcd_keep (h.fits j y r' hy hj) k1 with g1|⟨o',g1⟩
     ·exact .inr fun o=>by rw[g1]
     ·exact .inr fun o=>by rw[g1];simp [Own.put]
   | false =>
    cases hsy:siteOf y.op with
    | none=>exact .inr fun o=>by rw[rcd_id (h.fits j y r' hy hj) ht hsy o]
    | some q =>
     rcases (draw_pair h.ok hx hy hne).2 with ho|hss
     ·exact .inl ho
     ·exact .inr fun o=>rcd_far (h.fits j y r' hy hj) hsy (hss s q hsx hsy) o
 have heff:r.g=true→eff C x.ban (evT TX.1) TX.2 x.op=some r.E:=fun hg'=>by
  rw[eff_congr huses,←hf.E hg'];cases ht:turnsMem x.op with
  | true =>
   cases hk:keepS x with
   | none=>rw[hturn0 ht hk]
   | some s =>
    obtain ⟨f,xs,k1,k2⟩:=keepS_inv hk;rw[k1,k2];simp only[eff];rw[calbE_congr (o':=(σ i).own) fun q hq=>hturn ht q (by rw[hk];exact fun e=>hq (Option.some.inj e).symm)]
  | false=>exact eff_own _ _ ht hread hsame
 have hval:(if r.g then r.E.valOf TX.2 else .tup [])=r.v:=by
  rw[hf.v];cases hgv:r.g with
  | false=>rfl
  | true =>
   simp only[if_true];cases hsx:siteOf x.op with
   | none =>
    cases ht:turnsMem x.op with
    | true =>
     cases hk:keepS x with
     | none=>rw[hturn0 ht hk]
     | some s =>
      obtain ⟨v,o',hv⟩:=eff_keep hk (hf.E hgv);rw[hv];rfl
    | false =>
     obtain ⟨v,hv⟩:=eff_val (hf.E hgv) ht hsx;rw[hv];rfl
   | some s =>
    have hss:=hsame s hsx;rcases eff_site (hf.E hgv) hsx with ⟨b,v,hv|hv⟩|⟨x,v,hv|hv⟩<;>rw[hv]<;>simp only[Eff.valOf,Own.cnt,hss]
 refine ⟨hg,heff,hval,fun X' hX' => ?_⟩;rw[←hT];refine foldX_insert hr hXi hX' _ fun j r' hj hlt hXj z => ?_
 obtain ⟨y,hy,hfy⟩:=hat j r' hj;have hne:i≠j:=by omega
 have hno : ¬ ordB (Region.before ops) i j=true:=fun ho=>by
  have:=ord_gt hX hXj hlt ho
  rw[hXi]at this;cases this
 obtain ⟨hp1,hp2⟩:=draw_pair h.ok hx hy hne;obtain ⟨hq1,hq2⟩:=draw_pair h.ok hy hx (Ne.symm hne);have hp:=hp1.resolve_left hno;have hq:=hq1.resolve_left (by rw[ordB_comm];exact hno);unfold Rcd.act;refine Prod.ext ?_ ?_
 ·funext t
  simp only[setF];by_cases h1:r'.d=some t<;>by_cases h2:r.d=some t
  ·exact absurd (by rw[hf.d]at h2;simp [looksA,h2]) (hp.1 t (by rw[←hfy.d];exact h1))
  ·simp [h1,h2]
  ·simp [h1,h2]
  ·simp [h1,h2]
 ·show r'.own (r.own z.2)=r.own (r'.own z.2)
  cases hmx:meetsMem x.op with
  | false=>rw[hidle i x r hx hr hmx,hidle i x r hx hr hmx]
  | true =>
   cases hmy:meetsMem y.op with
   | false=>rw[hidle j y r' hy hj hmy,hidle j y r' hy hj hmy]
   | true =>
    have hmix : ∀ {x y:AI} {r r':Rcd} {s1 s2 s3 s4:St},Fits C x r s1 s2→Fits C y r' s3 s4→keptB x y=true → ∀ o,r'.own (r.own o)=r.own (r'.own o):=fun hf hfy hk o=>by
     obtain ⟨q,k1,k2,_,_⟩:=kept_inv hk;rcases rcd_keep hf k1 with g1|⟨o',g1⟩
     ·rw[g1,g1]
     ·rcases rcd_site hfy k2 with g2|⟨F,g2⟩
      ·rw[g2,g2]
      ·rw[g1,g2,g2,g1]
       funext p
       simp only[Own.put];split<;>rfl
    rcases hp.2.1 with htx|h1|h1
    rotate_left
    ·rw[hmy]at h1;cases h1
    ·exact hmix hf hfy h1 _
    rcases hq.2.1 with hty|h1|h1
    rotate_left
    ·rw[hmx]at h1;cases h1
    ·exact (hmix hfy hf h1 _).symm
    cases hsx:siteOf x.op with
    | none=>rw[rcd_id hf htx hsx,rcd_id hf htx hsx]
    | some s =>
     cases hsy:siteOf y.op with
     | none=>rw[rcd_id hfy hty hsy,rcd_id hfy hty hsy]
     | some s' =>
      have hss:=(hp2.resolve_left hno) s s' hsx hsy;rcases rcd_site hf hsx with h1|⟨b,h1⟩
      ·rw[h1,h1]
      ·rcases rcd_site hfy hsy with h2|⟨b',h2⟩
       ·rw[h2,h2]
       ·rw[h1,h2,h2,h1]
        funext q
        simp only[Own.put];by_cases hqs:q=s<;>by_cases hqs':q=s'
        ·exact absurd (hqs.symm.trans hqs') hss
        ·simp [hqs,hss]
        ·simp [hqs',Ne.symm hss]
        ·simp [hqs,hqs']
end
end
end Go.Eng

namespace Go.Eng
open Go.RowKit
section
variable {ops:Array Oper} {md:Region.Mode}
theorem binds_any {e:Edge} (h:Region.binds .any e=true) (md:Region.Mode):Region.binds md e=true:=by
 unfold Region.binds at *;split at h<;>simp_all
theorem line_topo (ops:Array Oper) (md:Region.Mode) : ∀ (fuel t:Nat) (listed:Array Bool),listed.size=ops.size → ∀ (k i:Nat),(Region.linearise.go md ops fuel t listed [])[k]? = some i →
  ∃ o,ops[i]? = some o ∧ ∀ e∈o.after,Region.binds md e=true→listed.getD e.on false=true∨e.on∈(Region.linearise.go md ops fuel t listed []).take k
 | 0,t,listed,hs,k,i,h=>by simp [Region.linearise.go]at h
 | fuel+1,t,listed,hs,k,i,h=>by
  have hgo:Region.linearise.go md ops (fuel+1) t listed []=match (Region.ready md ops listed)[t%(Region.ready md ops listed).length]? with
   | some i=>i::Region.linearise.go md ops fuel (t/(Region.ready md ops listed).length) (listed.setIfInBounds i true) []
   | none=>[]:=by
   simp only[Region.linearise.go];change (match (Region.ready md ops listed)[t%(Region.ready md ops listed).length]? with
    | some i=>Region.linearise.go md ops fuel (t/(Region.ready md ops listed).length) (listed.setIfInBounds i true) [i]
    | none=>[].reverse)=_
   cases (Region.ready md ops listed)[t%(Region.ready md ops listed).length]? with
   | none=>rfl
   | some i=>simp only[];rw[linearise_go_acc];rfl
  rw[hgo]at h ⊢;cases hr:(Region.ready md ops listed)[t%(Region.ready md ops listed).length]? with
  | none=>rw[hr]at h;simp at h
  | some q =>
   rw[hr]at h;simp only at h ⊢;obtain ⟨_,oq,hoq,hq⟩:=mem_ready.1 (List.mem_of_getElem? hr);cases k with
   | zero =>
    simp at h;subst h;exact ⟨oq,hoq,fun e he hb => .inl (hq e he hb)⟩
   | succ k =>
    simp at h;obtain ⟨o,ho,hh⟩:=line_topo ops md fuel _ _ (by simpa using hs) k i h;refine ⟨o,ho,fun e he hb => ?_⟩;rcases hh e he hb with h1|h1
    ·by_cases heq:e.on=q
     ·right;simp [heq]
     ·left
      rw[getD_set_ne false (Ne.symm heq)]at h1;exact h1
    ·right;simp [h1]
theorem first_not {p:Nat→Bool} : ∀ (l:List Nat),(∃ i∈l,p i=false) → ∃ k i,l[k]? = some i∧p i=false ∧ ∀ j∈l.take k,p j=true
 | [],⟨i,hi,_⟩=>by simp at hi
 | x::r,⟨i,hi,hp⟩=>by
  cases hx:p x with
  | false=>exact ⟨0,x,rfl,hx,by simp⟩
  | true =>
   have : ∃ i∈r,p i=false:=by
    rcases List.mem_cons.1 hi with h|h
    ·subst h;rw[hx]at hp;cases hp
    ·exact ⟨i,h,hp⟩
   obtain ⟨k,j,h1,h2,h3⟩:=first_not r this;refine ⟨k+1,j,by simpa using h1,h2,fun q hq => ?_⟩;simp only[List.take_succ_cons,List.mem_cons]at hq;rcases hq with h|h
   ·subst h;exact hx
   ·exact h3 q h
theorem progress {l:List AI} (hd:drawOk ops l=true) (hmd:md = .gc→Region.departs ops=true) {listed:Array Bool} (hs:listed.size=ops.size) (hr:Region.ready md ops listed=[]) : ∀ j,j<ops.size→listed.getD j false=true:=by
 intro j hj;cases hjl:listed.getD j false with
 | true=>rfl
 | false =>
  exfalso;simp only[drawOk,Bool.and_eq_true]at hd;obtain ⟨⟨_,hback⟩,hline⟩:=hd;have notready : ∀ i,i<ops.size→listed.getD i false=false → ¬ ∀ o,ops[i]? = some o → ∀ e∈o.after,Region.binds md e=true→listed.getD e.on false=true:=fun i hi hl hall=>by
   have:i∈Region.ready md ops listed:=mem_ready.2 ⟨by
    have:i<listed.size:=by omega
    simp [Array.getD,this]at hl ⊢;exact hl,ops[i],Array.getElem?_eq_getElem hi,fun e he hb=>hall ops[i] (Array.getElem?_eq_getElem hi) e he hb⟩
   rw[hr]at this;simp at this
  by_cases hgc:md = .gc
  ·subst hgc
   rw[hmd rfl]at hline;simp only[Bool.not_true,Bool.false_or,List.all_eq_true,List.mem_range,List.contains_iff_mem]at hline;obtain ⟨k,i,h1,h2,h3⟩:=first_not (p:=fun q=>listed.getD q false) (Region.linearise .gc ops 0) ⟨j,hline j hj,hjl⟩;obtain ⟨o,ho,hh⟩:=line_topo ops .gc ops.size 0 (Array.replicate ops.size false) (by simp) k i h1;have hi:i<ops.size:=(Array.getElem?_eq_some_iff.1 ho).1;refine notready i hi h2 fun o' ho' e he hb => ?_
   rw[ho]at ho';obtain rfl:o=o':=by simpa using ho'
   rcases hh e he hb with h4|h4
   ·simp [Array.getD]at h4
   ·exact h3 e.on h4
  ·obtain ⟨k,i,h1,h2,h3⟩:=first_not (p:=fun q=>listed.getD q false) (List.range ops.size) ⟨j,by simpa using hj,hjl⟩
   have hik:i=k:=by
    have hkl:k<ops.size:=by have:=(List.getElem?_eq_some_iff.1 h1).1;simpa using this
    rw[List.getElem?_range hkl]at h1;simpa using h1.symm
   subst hik;have hi:i<ops.size:=by have:=(List.getElem?_eq_some_iff.1 h1).1;simpa using this
   refine notready i hi h2 fun o ho e he hb => ?_
   rw[List.all_eq_true]at hback;have hmem:(o,i)∈ops.toList.zipIdx:=List.mem_zipIdx_iff_getElem?.2 (by simpa using ho);have h4:=hback (o,i) hmem;simp only[Array.all_eq_true_iff_forall_mem,Bool.or_eq_true,decide_eq_true_eq]at h4;rcases h4 e he with h5|h5
   ·exact h3 e.on (by rw[List.take_range];simp;omega)
   ·exfalso
    unfold Region.binds at hb;split at h5
    ·rename_i row hrow
     rw[hrow]at hb;simp at hb;exact hgc hb
    ·cases h5
variable {B:Nat} {S:Nat→Prop} {w0:Base} {m0:M} {N:Nat}
variable {P:Program} {num:Nat→Nat} {C:Cl} {Q:Exit→Act→World→Prop}
def todoN (listed:Array Bool) (n:Nat):Nat:=(List.range n).countP (fun j => !listed.getD j false)
theorem countP_lt {α:Type} {p q:α→Bool} : ∀ {l:List α} {x:α},(∀ y∈l,q y=true→p y=true)→x∈l→p x=true→q x=false→l.countP q<l.countP p
 | [],x,_,hx,_,_=>by simp at hx
 | y::r,x,h,hx,hp,hq=>by
  have hle:r.countP q≤r.countP p:=List.countP_mono_left fun z hz hqz=>h z (by simp [hz]) hqz
  rw[List.countP_cons,List.countP_cons];rcases List.mem_cons.1 hx with rfl|hx
  ·simp only[hp,hq,if_true,Bool.false_eq_true,if_false]
   omega
  ·have:=countP_lt (l:=r) (fun z hz=>h z (by simp [hz])) hx hp hq
   by_cases hqy:q y=true
   ·simp only[hqy,h y (by simp) hqy,if_true];omega
   ·simp only[hqy,Bool.false_eq_true,if_false]
    split<;>omega
theorem wp_any {I:Keep} (hC:CallsAt I P num C B w0) {l:List AI} (hok:okL P num N ops ops.toList l=true) {σ:Nat→St} {rs:List Rcd} (h:Drawn C ops l σ rs) (hmd:md = .gc→Region.departs ops=true)
  (hQ : ∀ m' a',m'.own=(σ l.length).own→FrOK B S w0 m0 N (tget (σ l.length).tm) m' a'→Q .normal a' m'.w) :
  ∀ (fuel:Nat) (listed:Array Bool) (a:Act) (m:M),listed.size=ops.size→todoN listed ops.size≤fuel→Down ops (fun j=>listed.getD j false)→m.own=(foldX (fun j=>listed.getD j false) rs 0 (d0 σ)).2→FrOK B S w0 m0 N (foldX (fun j=>listed.getD j false) rs 0 (d0 σ)).1 m a→wpAny P md ops Q fuel listed a m.w:=by
 have hlen:ops.size=l.length:=by have:=(okL_get hok).1;simpa using this
 have final : ∀ (listed:Array Bool) (a:Act) (m:M),(∀ j,j<ops.size→listed.getD j false=true)→m.own=(foldX (fun j=>listed.getD j false) rs 0 (d0 σ)).2→FrOK B S w0 m0 N (foldX (fun j=>listed.getD j false) rs 0 (d0 σ)).1 m a→Q .normal a m.w:=fun listed a m hall hown hf=>by
  have:foldX (fun j=>listed.getD j false) rs 0 (d0 σ)=(tget (σ l.length).tm,(σ l.length).own):=by
   rw[←drawn_text h l.length (Nat.le_refl _)];refine foldX_congr rs 0 _ fun i hi => ?_
   simp only[Nat.zero_add];rw[hall i (by rw[hlen,←h.len];exact hi)];simp;rw[←h.len];exact hi
  rw[this]at hown hf;exact hQ m a hown hf
 have all0 : ∀ listed:Array Bool,todoN listed ops.size≤0 → ∀ j,j<ops.size→listed.getD j false=true:=fun listed h0 j hj=>by
  have h1:todoN listed ops.size=0:=by omega
  unfold todoN at h1;rw[List.countP_eq_zero]at h1;simpa using h1 j (by simpa using hj)
 intro fuel;induction fuel with
 | zero =>
  intro listed a m hsz hn hdn hown hf;refine ⟨?_,final listed a m (all0 listed hn) hown hf⟩;cases hr:Region.ready md ops listed with
  | nil=>rfl
  | cons i r =>
   obtain ⟨h1,o,ho,_⟩:=mem_ready.1 (show i∈Region.ready md ops listed by rw[hr];simp);have hi:i<ops.size:=(Array.getElem?_eq_some_iff.1 ho).1;have h2:=all0 listed hn i hi;have hil:i<listed.size:=by omega
   simp [Array.getD,hil]at h1 h2;rw[h1]at h2;cases h2
 | succ fuel ih =>
  intro listed a m hsz hn hdn hown hf;refine ⟨fun hr=>final listed a m (progress h.ok hmd hsz hr) hown hf,fun i hi => ?_⟩;obtain ⟨h1,o,ho,hedges⟩:=mem_ready.1 hi;have hio:i<ops.size:=(Array.getElem?_eq_some_iff.1 ho).1;have hil:i<listed.size:=by omega
  have hi0:listed.getD i false=false:=by
   simp [Array.getD,hil]at h1 ⊢;exact h1
  have hll:i<l.length:=by omega
  have hrl:i<rs.length:=by rw[h.len];exact hll
  have hx:l[i]? = some l[i]:=List.getElem?_eq_getElem hll;have hr:rs[i]? = some rs[i]:=List.getElem?_eq_getElem hrl;have hready : ∀ o',ops[i]? = some o' → ∀ e∈o'.after,Region.binds .any e=true→listed.getD e.on false=true:=fun o' ho' e he hb=>by
   rw[ho]at ho';obtain rfl:o=o':=by simpa using ho'
   exact hedges e he (binds_any hb md)
  obtain ⟨g1,g2,g3,g4⟩:=drawn_step h hx hr hdn hi0 hready;have hoki:=(okL_get hok).2 i o l[i] (by simpa using ho) hx;have hX' : ∀ j,(listed.setIfInBounds i true).getD j false=(decide (j=i)||listed.getD j false):=fun j=>by
   by_cases hji:j=i
   ·subst hji;simp [Array.getD,hil]
   ·rw[getD_set_ne false (Ne.symm hji)];simp [hji]
  refine wpOp_do hC ho hoki hf g1 (fun hg=>by rw[hown];exact g2 hg) fun m' a' hown' hf' => ?_
  have hnew:=g4 _ hX';refine ih (listed.setIfInBounds i true) a' m' (by simpa using hsz) ?_ ?_ ?_ ?_
  ·have hlt:todoN (listed.setIfInBounds i true) ops.size<todoN listed ops.size:=by
    refine countP_lt (x:=i) (fun j _ hj => ?_) (by simpa using hio) (by simp [hi0]) (by rw[hX'];simp);rw[hX']at hj;simp at hj ⊢;exact hj.2
   omega
  ·intro j oj hj hoj e he hb
   change (listed.setIfInBounds i true).getD j false=true at hj;show (listed.setIfInBounds i true).getD e.on false=true;rw[hX']at hj ⊢;simp only[Bool.or_eq_true,decide_eq_true_eq]at hj ⊢;rcases hj with rfl|hj
   ·exact .inr (hready oj hoj e he hb)
   ·exact .inr (hdn j oj hj hoj e he hb)
  ·rw[hnew,hown',hown]
   rfl
  ·rw[hnew]
   rw[hown,g3]at hf';have hd:(l[i]).dst=(rs[i]).d:=(h.fits i _ _ hx hr).d.symm;rw[hd]at hf';exact hf'
theorem wp_draw {I:Keep} (hC:CallsAt I P num C B w0) {id:Nat} {l:List AI} (hok:okL P num N ops ops.toList l=true) (hd:drawOk ops l=true) {st st':St} (hst:stepL C l st=some st') {m:M} {a:Act} (hown:m.own=st.own) (hf:FrOK B S w0 m0 N (tget st.tm) m a)
  (hQ : ∀ m' a',m'.own=st'.own→FrOK B S w0 m0 N (tget st'.tm) m' a'→Q .normal a' m'.w):(Code.region id ops true).wp P Q a m.w:=by
 obtain ⟨σ,rs,h0,h1,hl,h2⟩:=trace hst;have hD:Drawn C ops l σ rs:=⟨hd,hl,h2⟩;obtain ⟨hm1,he1⟩:=grow hf.mem ((Bel.refl w0.D m.w.heap.size m.w).drew);have hf1:FrOK B S w0 m0 N (tget st.tm) ⟨m.ν,m.own,m.w.drew⟩ a:=⟨hm1,hf.ext.trans he1,fun i=>he1.cv (hf.tm i),hf.size,hf.defers⟩;have h00:foldX (fun j=>(Array.replicate ops.size false).getD j false) rs 0 (d0 σ)=d0 σ:=foldX_none rs 0 _ fun i _=>by simp [Array.getD]
 have key : ∀ md:Region.Mode,(md = .gc→Region.departs ops=true) → ∀ t,wpOps P ops Q (Region.linearise md ops t) a m.w.drew:=fun md hmd t=>by
  refine wpAny_sound ops.size t (Array.replicate ops.size false) a m.w.drew ?_;refine wp_any hC hok hD hmd (by rw[h1];exact hQ) ops.size _ a ⟨m.ν,m.own,m.w.drew⟩ (by simp) ?_ ?_ ?_ ?_
  ·unfold todoN
   exact Nat.le_trans List.countP_le_length (by simp)
  ·intro j o hj
   simp [Array.getD]at hj
  ·rw[h00];simp [d0,h0,hown]
  ·rw[h00];simpa [d0,h0] using hf1
 refine wp_region_draw fun t => ?_
 change wpOps P ops Q _ a m.w.drew;unfold Region.schedule;split
 ·exact key .any (fun h=>by cases h) t
 ·rename_i hdep
  have hdp:Region.departs ops=true:=by simp at hdep;exact hdep.2
  split
  ·exact key .text (fun _=>hdp) _
  ·exact key .gc (fun _=>hdp) _
end
end Go.Eng

namespace Go.Eng
open Go.RowKit
section
variable {B:Nat} {S:Nat→Prop} {w0:Base} {m0:M} {N:Nat}
variable {P:Program} {num:Nat→Nat} {C:Cl}
theorem tget_drop (m:Tm) (l:List Nat) (j:Nat):tget (tdrop m l) j=tget m j∨tget (tdrop m l) j = .any:=by
 induction m with
 | nil=>exact .inl rfl
 | cons x r ih =>
  obtain ⟨i,v⟩:=x;simp only[tdrop];split
  ·by_cases h:j=i
   ·subst h
    rename_i hc;right
    clear ih;induction r with
    | nil=>rfl
    | cons y q ih =>
     obtain ⟨k,u⟩:=y;simp only[tdrop];split
     ·exact ih
     ·rename_i hk
      have : ¬ j=k:=fun e=>by subst e;exact hk hc
      simp only[tget,if_neg this];exact ih
   ·rcases ih with h1|h1
    ·left;simp only[tget,if_neg h];exact h1
    ·right;exact h1
  ·by_cases h:j=i
   ·left;simp [tget,h]
   ·simp only[tget,if_neg h]
    exact ih
inductive Todo (P:Program) (num:Nat→Nat) (N:Nat):List It→List Item→Prop
 | nil:Todo P num N [] []
 | code {c:Code} {a:ACode} {k:List It} {t:List Item} (h:okCode P num N c a=true) (hk:Todo P num N k t):Todo P num N (.code a::k) (.code c::t)
 | drop {ts ss:List Nat} {k:List It} {t:List Item} (hk:Todo P num N k t):Todo P num N (.drp ts ss::k) t
 | blk {id:Nat} {k:List It} {t:List Item} (hk:Todo P num N k t):Todo P num N (.blk id::k) (.inBlock id::t)
 | lp {c:Code} {a:ACode} {k:List It} {t:List Item} (h:okCode P num N c a=true) (hk:Todo P num N k t):Todo P num N (.lp a::k) (.inLoop c::t)
 | scope {c:Code} {k:List It} {t:List Item} (hk:Todo P num N k t):Todo P num N k (.inScope c::t)
theorem step_inScope {b:Frame} {a:Act} {k:List Item} {cs:List Frame} {w:World} {c:Code}:step P (lone (b.at a (.inScope c::k)) cs w) = .next (lone (b.at a k) cs w) :=
 step_lone_go (by simp [stepG,stepG.exec,Frame.at])
theorem step_scope {b:Frame} {a:Act} {k:List Item} {cs:List Frame} {w:World} {c:Code}:step P (lone (b.at a (.code (.scope c)::k)) cs w) = .next (lone (b.at a (.code c :: .inScope c::k)) cs w) :=
 step_lone_go (by simp [stepG,stepG.exec,Frame.at])
theorem exit_todo {id:Nat} : ∀ {k:List It} {t:List Item},Todo P num N k t → ∀ {k':List It},exitA id k=some k' → ∃ t',exitTo id t=some t'∧Todo P num N k' t'
 | _,_,.nil,k',h=>by simp [exitA]at h
 | _,_,.code h0 hk,k',h=>by
  simp only[exitA]at h;obtain ⟨t',h1,h2⟩:=exit_todo hk h;exact ⟨t',by simpa [exitTo] using h1,h2⟩
 | _,_,.drop hk,k',h=>by
  simp only[exitA]at h;exact exit_todo hk h
 | _,_,.blk (id:=id') hk,k',h=>by
  simp only[exitA]at h;split at h
  ·rename_i he
   subst he;simp only[Option.some.injEq]at h;subst h;exact ⟨_,by simp [exitTo],hk⟩
  ·rename_i he
   obtain ⟨t',h1,h2⟩:=exit_todo hk h;exact ⟨t',by simpa [exitTo,he] using h1,h2⟩
 | _,_,.lp h0 hk,k',h=>by
  simp only[exitA]at h;obtain ⟨t',h1,h2⟩:=exit_todo hk h;exact ⟨t',by simpa [exitTo] using h1,h2⟩
 | _,_,.scope hk,k',h=>by
  obtain ⟨t',h1,h2⟩:=exit_todo hk h;exact ⟨t',by simpa [exitTo] using h1,h2⟩
def Comes' (B:Nat) (S:Nat→Prop) (w0:Base) (m0:M) (N:Nat) (P:Program) (b:Frame) (cs:List Frame) (mach:Machine) (st':St):Prop :=
 ∃ a' m' todo',Steps P mach (lone { b.at a' todo' with mode := .returning } cs m'.w)∧m'.own=st'.own∧FrOK B S w0 m0 N (tget st'.tm) m' a'
theorem run_sound {I:Keep} (hC:CallsAt I P num C B w0) (b:Frame) (cs:List Frame) : ∀ (n:Nat) (k:List It) (st st':St),run C n k st=some st' → ∀ (t:List Item),Todo P num N k t → ∀ (m:M) (a:Act),m.own=st.own→FrOK B S w0 m0 N (tget st.tm) m a →
  Comes' B S w0 m0 N P b cs (lone (b.at a t) cs m.w) st':=by
 intro n;induction n with
 | zero=>intro k st st' h;simp [run]at h
 | succ n ih =>
  intro k st st' h t ht;have fin : ∀ (t:List Item),Todo P num N [] t → ∀ (m:M) (a:Act),m.own=st.own→FrOK B S w0 m0 N (tget st.tm) m a→st=st'→Comes' B S w0 m0 N P b cs (lone (b.at a t) cs m.w) st':=by
   intro t ht;generalize hk:([]:List It)=kk at ht;induction ht with
   | nil =>
    intro m a hown hf he;subst he;exact ⟨a,m,[],.one step_end,hown,hf⟩
   | scope hk' ih2 =>
    intro m a hown hf he;obtain ⟨a',m',todo',h1,h2⟩:=ih2 hk m a hown hf he;exact ⟨a',m',todo',.head step_inScope h1,h2⟩
   | code=>cases hk
   | drop=>cases hk
   | blk=>cases hk
   | lp=>cases hk
  cases k with
  | nil =>
   intro m a hown hf;simp only[run,Option.some.injEq]at h;exact fin t ht m a hown hf h
  | cons it k =>
   generalize hkk:it::k=kk at ht;induction ht with
   | nil=>cases hkk
   | scope hk' ih2 =>
    intro m a hown hf;obtain ⟨a',m',todo',h1,h2⟩:=ih2 hkk m a hown hf;exact ⟨a',m',todo',.head step_inScope h1,h2⟩
   | @blk id k2 t2 hk' ih2 =>
    intro m a hown hf;obtain ⟨rfl,rfl⟩:it = .blk id∧k=k2:=by simpa using hkk
    simp only[run]at h;obtain ⟨a',m',todo',h1,h2⟩:=ih k st st' h t2 hk' m a hown hf;exact ⟨a',m',todo',.head step_inBlock h1,h2⟩
   | @lp c ac k2 t2 hok hk' ih2 =>
    intro m a hown hf;obtain ⟨rfl,rfl⟩:it = .lp ac∧k=k2:=by simpa using hkk
    simp only[run]at h;obtain ⟨a',m',todo',h1,h2⟩:=ih _ st st' h (.code c :: .inLoop c::t2) (.code hok (.lp hok hk')) m a hown hf;exact ⟨a',m',todo',.head step_inLoop h1,h2⟩
   | @drop ts ss k2 t2 hk' ih2 =>
    intro m a hown hf;obtain ⟨rfl,rfl⟩:it = .drp ts ss∧k=k2:=by simpa using hkk
    simp only[run]at h;obtain ⟨hm',he⟩:=drop_ok hf.mem ss;have hf':FrOK B S w0 m0 N (tget (tdrop st.tm ts)) ⟨m.ν,m.own.drop ss,m.w⟩ a:=⟨hm',hf.ext.trans he,fun i=>by
     rcases tget_drop st.tm ts i with h1|h1
     ·rw[h1];exact he.cv (hf.tm i)
     ·rw[h1];exact .any _,hf.size,hf.defers⟩
    obtain ⟨a',m',todo',h1,h2,h3⟩:=ih k ⟨tdrop st.tm ts,st.own.drop ss⟩ st' h t2 hk' ⟨m.ν,m.own.drop ss,m.w⟩ a (by simp [hown]) hf';exact ⟨a',m',todo',h1,h2,h3⟩
   | @code c ac k2 t2 hok hk' ih2 =>
    obtain ⟨rfl,rfl⟩:it = .code ac∧k=k2:=by simpa using hkk
    clear ih2 hkk;intro m a hown hf;cases ac with
    | dr ac ts ss =>
     simp only[okCode]at hok;simp only[run]at h;exact ih _ st st' h _ (.code hok (.drop hk')) m a hown hf
    | skip =>
     simp only[run]at h;cases c with
     | skip =>
      obtain ⟨a',m',todo',h1,h2⟩:=ih _ st st' h _ hk' m a hown hf;exact ⟨a',m',todo',.head step_skip h1,h2⟩
     | label =>
      obtain ⟨a',m',todo',h1,h2⟩:=ih _ st st' h _ hk' m a hown hf;exact ⟨a',m',todo',.head step_label h1,h2⟩
     | _=>simp [okCode]at hok
    | scope ac =>
     simp only[run]at h;cases c with
     | scope c =>
      simp only[okCode]at hok;obtain ⟨a',m',todo',h1,h2⟩:=ih _ st st' h _ (.code hok (.scope (c:=c) hk')) m a hown hf;exact ⟨a',m',todo',.head step_scope h1,h2⟩
     | _=>simp [okCode]at hok
    | seq a1 a2 =>
     simp only[run]at h;cases c with
     | seq c1 c2 =>
      simp only[okCode,Bool.and_eq_true]at hok;obtain ⟨a',m',todo',h1,h2⟩:=ih _ st st' h _ (.code hok.1 (.code hok.2 hk')) m a hown hf;exact ⟨a',m',todo',.head step_seq h1,h2⟩
     | _=>simp [okCode]at hok
    | cond x a1 a2 =>
     simp only[run]at h;cases c with
     | cond xc c1 c2 =>
      simp only[okCode,Bool.and_eq_true]at hok;have hcv:CV B S m (st.ev x) (a.eval xc):=by rw[ev_eq];exact hf.says xc x hok.1.1
      split at h
      ·rename_i hx
       rw[hx]at hcv;obtain ⟨a',m',todo',h1,h2⟩:=ih _ st st' h _ (.code hok.1.2 hk') m a hown hf;exact ⟨a',m',todo',.head (step_cond (cv_bool hcv)) h1,h2⟩
      ·rename_i hx
       rw[hx]at hcv;obtain ⟨a',m',todo',h1,h2⟩:=ih _ st st' h _ (.code hok.2 hk') m a hown hf;exact ⟨a',m',todo',.head (step_cond (cv_bool hcv)) h1,h2⟩
      ·cases h
     | _=>simp [okCode]at hok
    | block id ac =>
     simp only[run]at h;cases c with
     | block id' c =>
      simp only[okCode,Bool.and_eq_true,beq_iff_eq]at hok;obtain ⟨rfl,hok⟩:=hok;obtain ⟨a',m',todo',h1,h2⟩:=ih _ st st' h _ (.code hok (.blk hk')) m a hown hf;exact ⟨a',m',todo',.head step_block h1,h2⟩
     | _=>simp [okCode]at hok
    | loop ac =>
     simp only[run]at h;cases c with
     | loop c =>
      simp only[okCode]at hok;obtain ⟨a',m',todo',h1,h2⟩:=ih _ st st' h _ (.code hok (.lp hok hk')) m a hown hf;exact ⟨a',m',todo',.head step_loop h1,h2⟩
     | _=>simp [okCode]at hok
    | exit id =>
     simp only[run]at h;cases c with
     | exit id' =>
      simp only[okCode,beq_iff_eq]at hok;subst hok;split at h
      ·rename_i k' hk2
       obtain ⟨t',e1,e2⟩:=exit_todo hk' hk2;obtain ⟨a',m',todo',h1,h2⟩:=ih _ st st' h _ e2 m a hown hf;exact ⟨a',m',todo',.head (step_exit e1) h1,h2⟩
      ·cases h
     | _=>simp [okCode]at hok
    | ret =>
     simp only[run,Option.some.injEq]at h;subst h;cases c with
     | ret=>exact ⟨a,m,.code .ret::t2,.one step_ret,hown,hf⟩
     | _=>simp [okCode]at hok
    | ops l draw =>
     simp only[run]at h;split at h
     ·rename_i st1 hst1
      cases c with
      | region id ops draw' =>
       simp only[okCode,Bool.and_eq_true,beq_iff_eq]at hok;obtain ⟨⟨rfl,hokl⟩,hdr⟩:=hok;have hwp:(Code.region id ops draw').wp P (fun e a' w'=>e = .normal ∧ ∃ m',m'.w=w'∧m'.own=st1.own∧FrOK B S w0 m0 N (tget st1.tm) m' a') a m.w:=by
        cases draw' with
        | true=>exact wp_draw hC hokl (by simpa using hdr) hst1 hown hf fun m' a' h1 h2=>⟨rfl,m',rfl,h1,h2⟩
        | false =>
         refine wp_region ?_;rw[List.range_eq_range'];exact wp_text hC hokl ops.size 0 st st1 m a (by omega) (by simpa using hst1) hown hf fun m' a' h1 h2=>⟨rfl,m',rfl,h1,h2⟩
       obtain ⟨e,a1,w1,⟨rfl,m1,rfl,hown1,hf1⟩,harr⟩:=hwp b t2 cs;obtain ⟨a',m',todo',h1,h2,h3⟩:=ih _ st1 st' h _ hk' m1 a1 hown1 hf1;exact ⟨a',m',todo',Steps.trans harr h1,h2,h3⟩
      | _=>simp [okCode]at hok
     ·cases h
end
end Go.Eng

namespace Go.Eng
open Go.RowKit
section
variable {P:Program} {num:Nat→Nat} {L:Lib}
def ProgOK (P : Program) (num : Nat → Nat) (L : Lib) : Prop := (∀ f fa, L f = some fa → ∃ fn, P.funcs[num f]? = some fn ∧ okFn P num fn fa = true ∧ (fn.name == "runtime.NumGoroutine") = false) ∧ L.num = num
theorem initTm_get : ∀ (args:List AV) (k i:Nat),tget (initTm k args) i=if k≤i then (match args[i-k]? with|some v=>v|none => .any) else .any
 | [],k,i=>by simp [initTm,tget]
 | v::r,k,i=>by
  simp only[initTm,tget];by_cases h:i=k
  ·subst h;simp
  ·rw[if_neg h,initTm_get r (k+1) i]
   by_cases h2:k≤i
   ·rw[if_pos h2,if_pos (by omega)]
    have:i-k=(i-(k+1))+1:=by omega
    rw[this];simp
   ·rw[if_neg h2,if_neg (by omega)]
section
variable {B:Nat} {S:Nat→Prop} {w0:Base} {m0:M} {N:Nat}
def resSem (tmps:Array Value):ResultVar→Sem Value
 | .tmp t=>pure (tmps.getD t undef)
 | .cell x t=>do loadVar t (←asAddr (tmps.getD x undef))
theorem ca_of_res {m:M} {x v:AV} {u:Value} (h:resTmp x=some v) (hcv:CV B S m x u):CA B S m v u:=by
 cases hcv with
 | any=>simp [resTmp]at h
 | tup=>simp [resTmp]at h
 | ca hc =>
  have:x=v:=by
   cases hc with
   | one hc=>cases hc with
    | rd hr=>cases hr<;>simpa [resTmp] using h
    | _=>simpa [resTmp] using h
   | fn=>simpa [resTmp] using h
   | fnb=>simpa [resTmp] using h
   | agg=>simpa [resTmp] using h
  subst this;exact hc
theorem results_ok {m:M} {a:Act} {st:St} (hf:FrOK B S w0 m0 N (tget st.tm) m a) (hown:m.own=st.own) : ∀ {rv:List ResultVar} {ra:List ARes} {vs:List AV},okRes P rv ra=true→ra.mapM (resOf st)=some vs →
  ∃ us:List Value,(rv.mapM (resSem a.tmps)).run P m.w = .ok us m.w∧vs.length=us.length ∧ ∀ (j:Nat) (c:AV) (v:Value),vs[j]? = some c→us[j]? = some v→CA B S m c v
 | [],[],vs,_,h=>by
  simp at h;subst h;exact ⟨[],by simp,rfl,fun j c v hc=>by simp at hc⟩
 | .tmp t::r,.tmp t'::l,vs,hok,h=>by
  simp only[okRes,Bool.and_eq_true,beq_iff_eq]at hok;obtain ⟨rfl,hok⟩:=hok;simp only[List.mapM_cons,Option.bind_eq_bind,Option.pure_def]at h;cases hv:resOf st (.tmp t) with
  | none=>simp [hv]at h
  | some v =>
   cases hr:l.mapM (resOf st) with
   | none=>simp [hv,hr]at h
   | some vr =>
    simp [hv,hr]at h;subst h;obtain ⟨us,h1,h2,h3⟩:=results_ok hf hown hok hr;have hcv:=hf.tm t;have hca:CA B S m v (a.tmps.getD t undef):=ca_of_res hv hcv;refine ⟨a.tmps.getD t undef::us,?_,by simp [h2],fun j c u hc hu => ?_⟩
    ·simp only[List.mapM_cons,Sem.run_bind,resSem,Sem.run_pure,Result.andThen_ok,h1]
    ·cases j with
     | zero =>
      obtain rfl:v=c:=by simpa using hc
      obtain rfl:a.tmps.getD t undef=u:=Option.some.inj hu;exact hca
     | succ j=>exact h3 j c u (by simpa using hc) (by simpa using hu)
 | .cell x t::r,.cell x' agg n::l,vs,hok,h=>by
  simp only[okRes,Bool.and_eq_true,beq_iff_eq]at hok;obtain ⟨⟨⟨rfl,hagg⟩,hn⟩,hok⟩:=hok;simp only[List.mapM_cons,Option.bind_eq_bind,Option.pure_def]at h;cases hv:resOf st (.cell x agg n) with
  | none=>simp [hv]at h
  | some v =>
   cases hr:l.mapM (resOf st) with
   | none=>simp [hv,hr]at h
   | some vr =>
    simp [hv,hr]at h;subst h;obtain ⟨us,h1,h2,h3⟩:=results_ok hf hown hok hr;have hcv:=hf.tm x;simp only[resOf]at hv;split at hv
    ·rename_i s u i j hx
     rw[hx]at hcv;split at hv
     ·rename_i cs hcs
      rw[←hown]at hcs;obtain ⟨ad,hev,ht,hb⟩:=cv_ptr hcv;obtain ⟨b,g,arr,e,hget,hg,vs',hvl,hcl,hvs⟩:=own_cells hf.mem (cv_ptr_lo hcv) hcs;obtain ⟨hcv',hone⟩:=ofCells_ok hv hcl;have hld:=run_loadAt (P:=P) t agg n (aggOf_inv (by simpa using hagg)) (by
       cases agg
       ·simpa using hn
       ·exact sizeIs_inv (by simpa using hn)) ad vs' hvl m.w (fun q u' hq=>by
       have hlt:q<vs'.length:=(List.getElem?_eq_some_iff.1 hq).1;obtain ⟨hg1,hg2⟩:=hg (by omega);obtain ⟨g',hg',rfl⟩:=hb b hget;obtain rfl:g=g':=by rw[hg1]at hg';simpa using hg'
       rw[add_none,cell_at hg2];exact hvs q u' hq)
      have hld':(resSem a.tmps (.cell x t)).run P m.w = .ok (if agg then .agg vs'.toArray else vs'.getD 0 undef) m.w:=by
       show (do loadVar t (←asAddr (a.tmps.getD x undef)):Sem Value).run P m.w=_;rw[hev];simpa [asAddr,Instr.loadAt,Instr.sureAddr] using hld
      have hca:CA B S m v (if agg then .agg vs'.toArray else vs'.getD 0 undef):=by
       unfold ofCells at hv;cases agg with
       | true =>
        simp only[if_true,Option.some.injEq]at hv;subst hv;exact .agg cs vs' hcl
       | false =>
        simp only[Bool.false_eq_true,if_false]at hv ⊢;split at hv
        ·rename_i c
         simp only[Option.some.injEq]at hv;subst hv;obtain ⟨u',hu',hcc⟩:=cl_get hcl (j:=0) (c:=c) rfl;simp only[List.getD,hu',Option.getD_some];exact .one hcc
        ·cases hv
      refine ⟨(if agg then .agg vs'.toArray else vs'.getD 0 undef)::us,?_,by simp [h2],fun j' c u' hc hu => ?_⟩
      ·rw[List.mapM_cons,Sem.run_bind,hld',Result.andThen_ok,Sem.run_bind,h1,Result.andThen_ok]
       rfl
      ·cases j' with
       | zero =>
        obtain rfl:v=c:=by simpa using hc
        obtain rfl:=Option.some.inj hu;exact hca
       | succ j'=>exact h3 j' c u' (by simpa using hc) (by simpa using hu)
     ·cases hv
    ·cases hv
 | [],_::_,_,hok,_=>by simp [okRes]at hok
 | .tmp _::_,[],_,hok,_=>by simp [okRes]at hok
 | .cell _ _::_,[],_,hok,_=>by simp [okRes]at hok
 | .tmp _::_,.cell _ _ _::_,_,hok,_=>by simp [okRes]at hok
 | .cell _ _::_,.tmp _::_,_,hok,_=>by simp [okRes]at hok
end
theorem callFunc_enter (hP:ProgOK P num L) {f:Nat} {fa:AFn} (hL:L f=some fa) (us:Array Value) (w:World):(callFunc (num f) us).run P w = .ok (.enter (num f) us) w:=by
 obtain ⟨fn,h1,h2,h3⟩:=hP.1 f fa hL;have hb:fn.body.isNone=false:=by
  simp only[okFn,Bool.and_eq_true]at h2;cases hbd:fn.body with
  | none=>rw[hbd]at h2;simp at h2
  | some c=>rfl
 unfold callFunc;simp only[Sem.run_bind,run_program,Result.andThen_ok,h1,h3,hb,Bool.false_eq_true,if_false,Sem.run_pure]
theorem inn_sound (hP:ProgOK P num L) {I:Keep} {n:Nat} (hC:CallsOK I P num (clAt L n)) {f:Nat} {vs:List AV} {own:Own} {r:AV} {own':Own} (h:evI L (n+1) f vs own=some (r,own')) (B:Nat) (S:Nat→Prop) (w0:Base) (m:M) (us:List Value) (hIB:I.b0≤B) (hIw:I.ok w0.w) (hID:w0.D→I.D) (hown:m.own=own) (hm:MemOK B S w0 m) (hl:vs.length=us.length)
  (hcv : ∀ (j:Nat) (c:AV) (v:Value),vs[j]? = some c→us[j]? = some v→CV B S m c v) :
  Calls P (num f) us.toArray m.w fun e w' => ∃ u m',e = .returned u∧m'.w=w'∧m'.own=own'∧MemOK B S w0 m'∧Ext B S m m'∧CV B S m' r u:=by
 rw[evI_succ]at h;cases hL:L f with
 | none=>simp [hL]at h
 | some fa =>
  simp only[hL]at h;split at h
  ·rename_i hpars
   split at h
   ·rename_i st hrun
    split at h
    ·rename_i rvs hres
     simp only[Option.some.injEq,Prod.mk.injEq]at h;obtain ⟨rfl,rfl⟩:=h;obtain ⟨fn,h1,h2,h3⟩:=hP.1 f fa hL;simp only[okFn,Bool.and_eq_true,beq_iff_eq,decide_eq_true_eq]at h2;obtain ⟨⟨⟨h4,h5⟩,h6⟩,h7⟩:=h2;split at h7
     ·rename_i c hc
      intro cs;have henter:Frame.enter P (num f) us.toArray .normal=({ (default:Frame) with fn:=num f,kind := .normal }:Frame).at { tmps:=us.toArray++Array.replicate (fn.ntmps-us.toArray.size) undef,defers:=[] } [.code c]:=by
       simp [Frame.enter,Frame.at,h1,hc]
      have hsz:us.length=fa.pars:=by rw[←hl];exact hpars
      have hf0:FrOK B S w0 m fn.ntmps (tget (initTm 0 vs)) m { tmps:=us.toArray++Array.replicate (fn.ntmps-us.toArray.size) undef,defers:=[] }:=by
       refine ⟨hm,Ext.refl m,fun i => ?_,by simp;omega,rfl⟩;rw[initTm_get];simp only[Nat.zero_le,if_true,Nat.sub_zero];cases hvi:vs[i]? with
       | none=>exact .any _
       | some v =>
        have hi:i<us.length:=by rw[←hl];exact (List.getElem?_eq_some_iff.1 hvi).1
        have hget:(us.toArray++Array.replicate (fn.ntmps-us.toArray.size) undef).getD i undef=us[i]:=by
         rw[Array.getD_eq_getD_getElem?,Array.getElem?_append_left (by simpa using hi)];simp [hi]
        simp only[hget];exact hcv i v us[i] hvi (List.getElem?_eq_getElem hi)
      obtain ⟨a',m',todo',hsteps,hown',hf'⟩:=run_sound (m0:=m) (⟨hC,hIB,hIw,hID⟩:CallsAt I P num (clAt L n) B w0) { (default:Frame) with fn:=num f,kind := .normal } cs n [.code fa.body] ⟨initTm 0 vs,own⟩ st hrun [.code c] (.code h7 .nil) m _ hown hf0;obtain ⟨uvs,hu1,hu2,hu3⟩:=results_ok (P:=P) hf' hown' h6 hres;have hresult:(results fn a'.tmps).run P m'.w = .ok (if h:uvs.length=1 then uvs[0] else .tuple uvs.toArray) m'.w:=by
       have hr:results fn a'.tmps=(do let vs ←fn.results.mapM (resSem a'.tmps);pure (if h:vs.size=1 then vs[0] else .tuple vs)):=rfl;rw[hr,Sem.run_bind,Array.mapM_eq_mapM_toList];simp [hu1]
      refine ⟨.returned (if h:uvs.length=1 then uvs[0] else .tuple uvs.toArray),m'.w,_,⟨_,m',rfl,rfl,hown',hf'.mem,hf'.ext,?_⟩,by rw[henter];exact hsteps,rfl,rfl,hf'.defers,rfl,fn,h1,hresult⟩;unfold resVal;split
      ·rename_i v
       have h1':uvs.length=1:=by rw[←hu2];rfl
       rw[dif_pos h1'];exact .ca (hu3 0 v uvs[0] rfl (List.getElem?_eq_getElem (by omega)))
      ·rename_i hne
       have h1' : ¬ uvs.length=1:=fun e=>by
        rw[←hu2]at e;cases rvs with
        | nil=>simp at e
        | cons q qs=>cases qs with
         | nil=>exact hne q rfl
         | cons=>simp at e
       rw[dif_neg h1'];exact .tup rvs uvs hu2 hu3
     ·cases h7
    ·cases h
   ·cases h
  ·cases h
theorem memOK_start (S:Nat→Prop) (w:World) (D:Prop):MemOK w.heap.size S ⟨w,D⟩ ⟨fun _ _=>none,Own.emp,w⟩ :=
 ⟨Bel.refl _ _ _,Nat.le_refl _,fun _ _ _=>rfl,fun s t b h=>by simp [Own.get,Own.emp]at h,fun s t s' t' b b' g h=>by simp [Own.get,Own.emp]at h⟩
theorem evI_none_of_lib {n f:Nat} {vs:List AV} {own:Own} {r:AV × Own} (h:evI L n f vs own=some r) : ∃ fa,L f=some fa:=by
 cases n with
 | zero=>simp [evI]at h
 | succ n =>
  rw[evI_succ]at h;cases hL:L f with
  | none=>simp [hL]at h
  | some fa=>exact ⟨fa,rfl⟩
theorem pureP_inv {n f:Nat} {vs:List AV} {r:AV} (h:pureP (fun vs=>evI L n f vs Own.emp) vs=some r) : ∃ r0 o,evI L n f vs Own.emp=some (r0,o)∧snapR o false r0=some r∧Clean r:=by
 unfold pureP at h;cases he:evI L n f vs Own.emp with
 | none=>simp [he]at h
 | some x =>
  obtain ⟨r0,o⟩:=x;simp only[he]at h;split at h
  ·rename_i r' hr
   split at h
   ·rename_i hc
    simp only[Option.some.injEq]at h;subst h;exact ⟨r0,o,rfl,hr,hc⟩
   ·cases h
  ·cases h
theorem evP_lib {n f:Nat} {vs:List AV} {r:AV} {fa:AFn} (hL:L f=some fa) (h:evP L n f vs=some r) : ∃ vs',∃ x,evI L n f vs' Own.emp=some x:=by
 unfold evP pureX pureS at h;simp only[hL]at h;split at h
 ·split at h
  ·rename_i r1 r2 h1 h2
   obtain ⟨r0,o,h3,_⟩:=pureP_inv h1;exact ⟨_,_,h3⟩
  ·cases h
 ·obtain ⟨r0,o,h3,_⟩:=pureP_inv h
  exact ⟨_,_,h3⟩
theorem evP_told {n f:Nat} {vs:List AV} {r:AV} (hL:L f=none) (h:evP L n f vs=some r):L.ext f vs=some r∧Clean r:=by
 unfold evP pureX at h;simp only[hL]at h;split at h
 ·rename_i r' hr
  split at h
  ·rename_i hc
   obtain rfl:=Option.some.inj h;exact ⟨hr,hc⟩
  ·cases h
 ·cases h
structure ProgX (I:Keep) (P:Program) (num:Nat→Nat) (L:Lib):Prop where
 ok:ProgOK P num L
 enter : ∀ (f:Nat) (vs:List AV) (r:AV),L f=none→L.ext f vs=some r → ∀ (us:Array Value) (w:World),(callFunc (num f) us).run P w = .ok (.enter (num f) us) w
 ext : ∀ (f:Nat) (vs:List AV) (r:AV),L f=none→L.ext f vs=some r→Clean r → ∀ (S:Nat→Prop) (w:World) (us:List Value),I.ok w→vs.length=us.length→(∀ (j:Nat) (c:AV) (v:Value),vs[j]? = some c→us[j]? = some v→CA w.heap.size S ⟨fun _ _=>none,Own.emp,w⟩ c v) →
  Calls P (num f) us.toArray w fun e w' => ∃ u,e = .returned u∧Bel I.D w.heap.size w w'∧CV w.heap.size S ⟨fun _ _=>none,Own.emp,w'⟩ r u∧Clean r
 cmp:CmpsOK P num L.cmp
 srt : ∀ (fs k:Nat),L.srts fs=some k→SortsAt P (num fs) k
theorem ProgX.of {I:Keep} (h:ProgOK P num L) (he : ∀ f vs,L.ext f vs=none) (hc : ∀ f vs,L.cmp f vs=none) (hs : ∀ f,L.srts f=none):ProgX I P num L:=⟨h,fun f vs r _ hx=>by rw[he]at hx;(cases hx),fun f vs r _ hx=>by rw[he]at hx;(cases hx),fun f vs r hx=>by rw[hc]at hx;(cases hx),fun f k hx=>by rw[hs]at hx;(cases hx)⟩
theorem pureP_ok (hP:ProgOK P num L) {I:Keep} {n:Nat} (ih:CallsOK I P num (clAt L n)) {f:Nat} {vs:List AV} {r:AV} (h:pureP (fun vs=>evI L (n+1) f vs Own.emp) vs=some r) (S:Nat→Prop) (w:World) (us:List Value) (hw:I.ok w) (hl:vs.length=us.length)
  (hca : ∀ (j:Nat) (c:AV) (v:Value),vs[j]? = some c→us[j]? = some v→CA w.heap.size S ⟨fun _ _=>none,Own.emp,w⟩ c v) :
  Calls P (num f) us.toArray w fun e w' => ∃ u,e = .returned u∧Bel I.D w.heap.size w w'∧CV w.heap.size S ⟨fun _ _=>none,Own.emp,w'⟩ r u∧Clean r:=by
 obtain ⟨r0,o,h1,h2,h3⟩:=pureP_inv (L:=L) h;refine Calls.mono (inn_sound hP ih h1 w.heap.size S ⟨w,I.D⟩ ⟨fun _ _=>none,Own.emp,w⟩ us (I.size _ hw) hw id rfl (memOK_start S w I.D) hl fun j c v hc hv => .ca (hca j c v hc hv)) fun e w' ⟨u,m',he,hw,hown,hm',_,hcv⟩ => ?_
 subst hw;refine ⟨u,he,hm'.below,?_,h3⟩;refine DV.cv (m:=⟨fun _ _=>none,Own.emp,m'.w⟩) (snapR_dv hm' false (safe w.heap.size S ⟨fun _ _=>none,Own.emp,m'.w⟩) (fun l b hb hs => ?_) (fun s t g hlv hg => ?_) (by rw[hown];exact h2) hcv)
 ·rcases hs with h|⟨h,_⟩|h
  ·exact .inl h
  ·exact .inr (.inl ⟨h,fun s t hlv=>by simp [Own.get,Own.emp]at hlv⟩)
  ·exact .inr (.inr h)
 ·exact .inr (.inl ⟨(hm'.ge hlv hg).1,fun s t hlv=>by simp [Own.get,Own.emp]at hlv⟩)
theorem calls_ok {I:Keep} (hP:ProgX I P num L) : ∀ n,CallsOK I P num (clAt L n):=by
 intro n;have told : ∀ n f vs r,L f=none→evP L n f vs=some r → ∀ (S:Nat→Prop) (w:World) (us:List Value),I.ok w→vs.length=us.length→(∀ (j:Nat) (c:AV) (v:Value),vs[j]? = some c→us[j]? = some v→CA w.heap.size S ⟨fun _ _=>none,Own.emp,w⟩ c v) →
   Calls P (num f) us.toArray w fun e w' => ∃ u,e = .returned u∧Bel I.D w.heap.size w w'∧CV w.heap.size S ⟨fun _ _=>none,Own.emp,w'⟩ r u∧Clean r:=fun n f vs r hL h=>by
  obtain ⟨h1,h2⟩:=evP_told hL h;exact hP.ext f vs r hL h1 h2
 have ent : ∀ n f vs r,evP L n f vs=some r → ∀ (us:Array Value) (w:World),(callFunc (num f) us).run P w = .ok (.enter (num f) us) w:=fun n f vs r h us w=>by
  cases hL:L f with
  | some fa=>exact callFunc_enter hP.ok hL us w
  | none=>exact hP.enter f vs r hL (evP_told hL h).1 us w
 induction n with
 | zero =>
  exact ⟨fun f vs r h=>ent 0 f vs r h,fun f vs own r h=>by change evI L 0 f vs own=some r at h;simp [evI]at h,
   fun f vs r h=>by
    cases hL:L f with
    | none=>exact told 0 f vs r hL h
    | some fa=>obtain ⟨vs',x,h1⟩:=evP_lib (L:=L) (n:=0) (f:=f) (vs:=vs) (r:=r) hL h;simp [evI]at h1,fun f vs own r own' h=>by change evI L 0 f vs own=_ at h;simp [evI]at h,hP.cmp,hP.srt,hP.ok.2⟩
 | succ n ih =>
  refine ⟨fun f vs r h us w=>ent (n+1) f vs r h us w,fun f vs own r h us w => ?_,fun f vs r h S w us hw hl hca => ?_,fun f vs own r own' h B S w0 m us hIB hIw hID hown hm hl hcv=>inn_sound hP.ok ih h B S w0 m us hIB hIw hID hown hm hl hcv,hP.cmp,hP.srt,hP.ok.2⟩
  ·obtain ⟨fa,hL⟩:=evI_none_of_lib (L:=L) h
   exact callFunc_enter hP.ok hL us w
  ·cases hL:L f with
   | none=>exact told (n+1) f vs r hL h S w us hw hl hca
   | some fa =>
   have h:pureS (L.spl f) (fun vs=>evI L (n+1) f vs Own.emp) vs=some r:=by
    have h:evP L (n+1) f vs=some r:=h;unfold evP pureX at h;simp only[hL]at h;exact h
   unfold pureS at h;split at h
   ·rename_i q vs' _ _
    split at h
    ·rename_i r1 r2 h1 h2
     split at h
     ·rename_i e
      subst e;obtain rfl:=Option.some.inj h;cases us with
      | nil=>simp at hl
      | cons u us =>
       have h0:=hca 0 _ u rfl rfl;have hu : ∃ a cap,u = .slice a 0 cap:=by
        cases h0 with
        | one h0=>cases h0 with
         | rd h0=>cases h0 with
          | sl0 l a cap=>exact ⟨a,cap,rfl⟩
          | sl l es b o esz cap u hne=>exact absurd rfl hne
       obtain ⟨a,cap,rfl⟩:=hu;have key : ∀ b,a.isNone=b → ∀ (j:Nat) (c:AV) (v:Value),(AV.con (.bool b)::vs')[j]? = some c→(Value.slice a 0 cap::us)[j]? = some v→CA w.heap.size S ⟨fun _ _=>none,Own.emp,w⟩ c v:=fun b hb j c v hc hv=>by
        cases j with
        | zero =>
         obtain rfl:=Option.some.inj hc;obtain rfl:=Option.some.inj hv;exact .one (.rd (.emp b a cap hb))
        | succ j=>exact hca (j+1) c v hc hv
       cases hb:a.isNone with
       | true=>exact pureP_ok hP.ok ih h1 S w _ hw (by simpa using hl) (key true hb)
       | false=>exact pureP_ok hP.ok ih h2 S w _ hw (by simpa using hl) (key false hb)
     ·cases h
    ·cases h
   ·exact pureP_ok hP.ok ih h S w us hw hl hca
end
end Go.Eng
namespace Go.Eng
abbrev OkF (P : Program) (num : Nat → Nat) (p : Nat × AFn) : Prop := ∃ fn, P.funcs[num p.1]? = some fn ∧ okFn P num fn p.2 = true ∧ (fn.name == "runtime.NumGoroutine") = false
theorem progOK_of {P:Program} {num:Nat→Nat} (l:List (Nat × AFn)) (h : ∀ p∈l,OkF P num p):ProgOK P num { fn:=fun f=>l.lookup f,num:=num }:=by
 refine ⟨?_,rfl⟩;intro f fa hf;have hm:(f,fa)∈l:=by
  clear h;change l.lookup f=some fa at hf;induction l with
  | nil=>simp at hf
  | cons x r ih =>
   obtain ⟨k,v⟩:=x;rw[List.lookup_cons]at hf;cases hk:(f == k) with
   | true =>
    rw[hk]at hf;have:f=k:=by simpa using hk
    subst this;simp at hf;simp [hf]
   | false =>
    rw[hk]at hf;exact List.mem_cons_of_mem _ (ih hf)
 exact h (f,fa) hm
end Go.Eng

namespace Go.Eng
section
variable {L:Lib}
def Cl.le (C C':Cl):Prop:=(∀ f vs r,C.pure f vs=some r→C'.pure f vs=some r)∧(∀ f vs o r,C.inn f vs o=some r→C'.inn f vs o=some r)∧C.num=C'.num∧C.cmp=C'.cmp∧C.srts=C'.srts
theorem adoptR_mono {x y:Option (AV × Own)} {r:Nat × List (List AV)} (h : ∀ q,x=some q→y=some q) (hr:adoptR x=some r):adoptR y=some r:=by
 cases x with
 | none=>simp [adoptR]at hr
 | some q=>rw[h q rfl];exact hr
theorem eff_mono {C C':Cl} (h:C.le C') {ban:List Nat} {ρ:Opd→AV} {own:Own} {op:AOp} {E:Eff} (he:eff C ban ρ own op=some E):eff C' ban ρ own op=some E:=by
 cases op with
 | call f xs =>
  simp only[eff]at he ⊢;split at he
  ·rename_i vs hvs
   simp only[Option.map_eq_some_iff]at he ⊢;obtain ⟨r,hr,rfl⟩:=he;exact ⟨r,h.1 f vs r hr,rfl⟩
  ·cases he
 | calli f xs =>
  simp only[eff]at he ⊢;split at he
  ·simp only[Option.map_eq_some_iff]at he ⊢
   obtain ⟨p,hp,rfl⟩:=he;have h1:=calbE_spec hp;exact ⟨p,calbE_iff h1.1 fun o ho=>h.2.1 f _ o _ (h1.2 o ho),rfl⟩
  ·simp only[Option.map_eq_some_iff]at he ⊢
   obtain ⟨r,hr,rfl⟩:=he;exact ⟨r,h.2.1 f _ own r hr,rfl⟩
 | srt fs f esz x c=>simp only[eff]at he ⊢;rw[←h.2.2.1,←h.2.2.2.1,←h.2.2.2.2];exact he
 | cals s f xs =>
  simp only[eff,Option.map_eq_some_iff]at he ⊢;obtain ⟨p,hp,rfl⟩:=he;exact ⟨p,calsE_iff.2 fun o ho=>h.2.1 f _ o _ (calsE_iff.1 hp o ho),rfl⟩
 | callr s f xs =>
  simp only[eff]at he ⊢;split at he
  ·rename_i vs hvs
   simp only[Option.map_eq_some_iff]at he ⊢;obtain ⟨r,hr,rfl⟩:=he;exact ⟨r,adoptR_mono (h.2.1 f vs Own.emp) hr,rfl⟩
  ·cases he
 | callq f xs =>
  simp only[eff]at he ⊢;split at he
  ·rename_i hq
   rw[if_pos hq];split at he
   ·rename_i r hr
    rw[h.1 _ _ r hr];exact he
   ·cases he
  ·cases he
 | callv x xs =>
  simp only[eff]at he ⊢;rw[←h.2.2.1];split at he
  ·split at he
   ·rename_i hg
    rw[if_pos hg];split at he
    ·split at he
     ·rename_i vs hvs
      simp only[Option.map_eq_some_iff]at he ⊢;obtain ⟨r,hr,rfl⟩:=he;exact ⟨r,h.1 _ vs r hr,rfl⟩
     ·cases he
    ·simp only[Option.map_eq_some_iff]at he ⊢
     obtain ⟨r,hr,rfl⟩:=he;exact ⟨r,h.2.1 _ _ own r hr,rfl⟩
    ·split at he
     ·rename_i vs hvs
      simp only[Option.map_eq_some_iff]at he ⊢;obtain ⟨r,hr,rfl⟩:=he;exact ⟨r,h.1 _ vs r hr,rfl⟩
     ·cases he
   ·cases he
  ·cases he
 | _=>exact he
theorem stepI_mono {C C':Cl} (h:C.le C') {o:AI} {st st':St} (he:stepI C o st=some st'):stepI C' o st=some st':=by
 unfold stepI at he ⊢;split at he
 ·simp only[Option.map_eq_some_iff]at he ⊢
  obtain ⟨E,h1,h2⟩:=he;exact ⟨E,eff_mono h h1,h2⟩
 ·exact he
 ·exact he
theorem stepL_mono {C C':Cl} (h:C.le C') : ∀ {l:List AI} {st st':St},stepL C l st=some st'→stepL C' l st=some st'
 | [],st,st',he=>he
 | o::r,st,st',he=>by
  simp only[stepL]at he ⊢;cases hs:stepI C o st with
  | none=>simp [hs]at he
  | some st1 =>
   rw[stepI_mono h hs];simp only[hs]at he;exact stepL_mono h he
theorem run_mono {C C':Cl} (h:C.le C') : ∀ {n n':Nat} {k:List It} {st st':St},n≤n'→run C n k st=some st'→run C' n' k st=some st':=by
 intro n;induction n with
 | zero=>intro n' k st st' _ hr;simp [run]at hr
 | succ n ih =>
  intro n' k st st' hn hr;obtain ⟨q,rfl⟩ : ∃ q,n'=q+1:=⟨n'-1,by omega⟩;have hq:n≤q:=by omega
  cases k with
  | nil=>exact hr
  | cons it k =>
   cases it with
   | blk id=>simp only[run]at hr ⊢;exact ih hq hr
   | drp ts ss=>simp only[run]at hr ⊢;exact ih hq hr
   | lp c=>simp only[run]at hr ⊢;exact ih hq hr
   | code c =>
    cases c with
    | skip=>simp only[run]at hr ⊢;exact ih hq hr
    | ops l d =>
     simp only[run]at hr ⊢;cases hs:stepL C l st with
     | none=>simp [hs]at hr
     | some st1 =>
      rw[stepL_mono h hs];simp only[hs]at hr;exact ih hq hr
    | dr c ts ss=>simp only[run]at hr ⊢;exact ih hq hr
    | scope c=>simp only[run]at hr ⊢;exact ih hq hr
    | seq a b=>simp only[run]at hr ⊢;exact ih hq hr
    | cond x a b =>
     simp only[run]at hr ⊢;split at hr
     ·exact ih hq hr
     ·exact ih hq hr
     ·cases hr
    | block id c=>simp only[run]at hr ⊢;exact ih hq hr
    | loop c=>simp only[run]at hr ⊢;exact ih hq hr
    | exit id =>
     simp only[run]at hr ⊢;split at hr
     ·exact ih hq hr
     ·cases hr
    | ret=>exact hr
theorem pureP_mono {I I':List AV→Option (AV × Own)} (hI : ∀ vs r,I vs=some r→I' vs=some r) {vs:List AV} {r:AV} (h:pureP I vs=some r):pureP I' vs=some r:=by
 unfold pureP at h ⊢;cases he:I vs with
 | none=>simp [he]at h
 | some x=>rw[hI vs _ he];simpa [he] using h
theorem pureS_mono {b:Bool} {I I':List AV→Option (AV × Own)} (hI : ∀ vs r,I vs=some r→I' vs=some r) {vs:List AV} {r:AV} (h:pureS b I vs=some r):pureS b I' vs=some r:=by
 unfold pureS at h ⊢;split at h
 ·split at h
  ·rename_i r1 r2 h1 h2
   rw[pureP_mono hI h1,pureP_mono hI h2];exact h
  ·cases h
 ·exact pureP_mono hI h
theorem ev_mono : ∀ (n:Nat),(clAt L n).le (clAt L (n+1)):=by
 have inn : ∀ n,(∀ f vs o r,evI L n f vs o=some r→evI L (n+1) f vs o=some r) → ∀ f vs r,evP L n f vs=some r→evP L (n+1) f vs=some r:=by
  intro n hI f vs r h;unfold evP pureX at h ⊢;cases hL:L f with
  | none=>simp only[hL]at h ⊢;exact h
  | some fa=>simp only[hL]at h ⊢;exact pureS_mono (fun vs r h=>hI f vs _ r h) h
 intro n;induction n with
 | zero =>
  have : ∀ f vs o r,evI L 0 f vs o=some r→evI L 1 f vs o=some r:=fun f vs o r h=>by simp [evI]at h
  exact ⟨inn 0 this,this,rfl,rfl,rfl⟩
 | succ n ih =>
  have : ∀ f vs o r,evI L (n+1) f vs o=some r→evI L (n+2) f vs o=some r:=fun f vs o r h=>by
   rw[evI_succ]at h ⊢;cases hL:L f with
   | none=>simp [hL]at h
   | some fn =>
    simp only[hL]at h ⊢;split at h
    ·rename_i hp
     rw[if_pos hp];cases hr:run (clAt L n) n [.code fn.body] ⟨initTm 0 vs,o⟩ with
     | none=>simp [hr]at h
     | some st =>
      rw[run_mono ih (Nat.le_succ n) hr];simpa [hr] using h
    ·cases h
  exact ⟨inn (n+1) this,this,rfl,rfl,rfl⟩
theorem cl_le {n n':Nat} (h:n≤n'):(clAt L n).le (clAt L n'):=by
 induction h with
 | refl=>exact ⟨fun _ _ _ h=>h,fun _ _ _ _ h=>h,rfl,rfl,rfl⟩
 | step _ ih=>exact ⟨fun f vs r h=>(ev_mono _).1 f vs r (ih.1 f vs r h),fun f vs o r h=>(ev_mono _).2.1 f vs o r (ih.2.1 f vs o r h),rfl,rfl,rfl⟩
def Ev (L:Lib) (f:Nat) (vs:List AV) (r:AV):Prop := ∃ n,evP L n f vs=some r
def EvD (L:Lib) (f:Nat) (vs:List AV) (r:AV):Prop := ∃ n,pureP (fun vs=>evI L n f vs Own.emp) vs=some r
def EvI (L:Lib) (f:Nat) (vs:List AV) (o:Own) (r:AV) (o':Own):Prop := ∃ n,evI L n f vs o=some (r,o')
def EvR (L:Lib) (f:Nat) (vs:List AV) (z:Nat) (es:List (List AV)):Prop := ∃ n,adoptR (evI L n f vs Own.emp)=some (z,es)
theorem Ev.det {f:Nat} {vs:List AV} {r r':AV} (h:Ev L f vs r) (h':Ev L f vs r'):r=r':=by
 obtain ⟨n,hn⟩:=h;obtain ⟨n',hn'⟩:=h';have h1:=(cl_le (L:=L) (Nat.le_max_left n n')).1 f vs r hn;have h2:=(cl_le (L:=L) (Nat.le_max_right n n')).1 f vs r' hn';rw[h1]at h2;exact Option.some.inj h2
theorem EvI.det {f:Nat} {vs:List AV} {o:Own} {r r':AV} {o1 o2:Own} (h:EvI L f vs o r o1) (h':EvI L f vs o r' o2):r=r'∧o1=o2:=by
 obtain ⟨n,hn⟩:=h;obtain ⟨n',hn'⟩:=h';have h1:=(cl_le (L:=L) (Nat.le_max_left n n')).2.1 f vs o _ hn;have h2:=(cl_le (L:=L) (Nat.le_max_right n n')).2.1 f vs o _ hn';rw[h1]at h2;simpa using h2
def AK (L:Lib) (k:List It) (st:St) (Q:St→Prop):Prop := ∃ n c st',run (clAt L c) n k st=some st'∧Q st'
def AO (L:Lib) (l:List AI) (k:List It) (st:St) (Q:St→Prop):Prop := ∃ n c st1 st',stepL (clAt L c) l st=some st1∧run (clAt L c) n k st1=some st'∧Q st'
variable {k:List It} {st:St} {Q:St→Prop}
theorem AK_step {it:It} {k':List It} {st1:St} (h : ∀ (C:Cl) (n:Nat),run C (n+1) (it::k) st=run C n k' st1):AK L (it::k) st Q↔AK L k' st1 Q:=by
 constructor
 ·rintro ⟨n,c,st',hr,hq⟩
  cases n with
  | zero=>simp [run]at hr
  | succ n=>exact ⟨n,c,st',by rw[←h];exact hr,hq⟩
 ·rintro ⟨n,c,st',hr,hq⟩
  exact ⟨n+1,c,st',by rw[h];exact hr,hq⟩
theorem AK_nil:AK L [] st Q↔Q st:=by
 constructor
 ·rintro ⟨n,c,st',hr,hq⟩
  cases n with
  | zero=>simp [run]at hr
  | succ n=>simp only[run,Option.some.injEq]at hr;exact hr ▸ hq
 ·exact fun h=>⟨1,0,st,rfl,h⟩
theorem AK_blk {id:Nat}:AK L (.blk id::k) st Q↔AK L k st Q:=AK_step fun _ _=>rfl
theorem AK_drp {ts ss:List Nat}:AK L (.drp ts ss::k) st Q↔AK L k ⟨tdrop st.tm ts,st.own.drop ss⟩ Q:=AK_step fun _ _=>rfl
theorem AK_lp {c:ACode}:AK L (.lp c::k) st Q↔AK L (.code c :: .lp c::k) st Q:=AK_step fun _ _=>rfl
theorem AK_skip:AK L (.code .skip::k) st Q↔AK L k st Q:=AK_step fun _ _=>rfl
theorem AK_dr {c:ACode} {ts ss:List Nat}:AK L (.code (.dr c ts ss)::k) st Q↔AK L (.code c :: .drp ts ss::k) st Q:=AK_step fun _ _=>rfl
theorem AK_scope {c:ACode}:AK L (.code (.scope c)::k) st Q↔AK L (.code c::k) st Q:=AK_step fun _ _=>rfl
theorem AK_seq {a b:ACode}:AK L (.code (.seq a b)::k) st Q↔AK L (.code a :: .code b::k) st Q:=AK_step fun _ _=>rfl
theorem AK_block {id:Nat} {c:ACode}:AK L (.code (.block id c)::k) st Q↔AK L (.code c :: .blk id::k) st Q:=AK_step fun _ _=>rfl
theorem AK_loop {c:ACode}:AK L (.code (.loop c)::k) st Q↔AK L (.code c :: .lp c::k) st Q:=AK_step fun _ _=>rfl
theorem AK_exit {id:Nat} {k':List It} (h:exitA id k=some k'):AK L (.code (.exit id)::k) st Q↔AK L k' st Q:=AK_step fun C n=>by simp [run,h]
theorem AK_ret:AK L (.code .ret::k) st Q↔Q st:=by
 constructor
 ·rintro ⟨n,c,st',hr,hq⟩
  cases n with
  | zero=>simp [run]at hr
  | succ n=>simp only[run,Option.some.injEq]at hr;exact hr ▸ hq
 ·exact fun h=>⟨1,0,st,rfl,h⟩
theorem AK_cond {x:Opd} {a b:ACode} {t:Bool} (h:st.ev x = .bool t):AK L (.code (.cond x a b)::k) st Q↔if t=true then AK L (.code a::k) st Q else AK L (.code b::k) st Q:=by
 cases t
 ·simpa using AK_step (k' := .code b::k) (st1:=st) fun C n=>by simp [run,h]
 ·simpa using AK_step (k' := .code a::k) (st1:=st) fun C n=>by simp [run,h]
theorem AK_ops {l:List AI} {d:Bool}:AK L (.code (.ops l d)::k) st Q↔AO L l k st Q:=by
 constructor
 ·rintro ⟨n,c,st',hr,hq⟩
  cases n with
  | zero=>simp [run]at hr
  | succ n =>
   simp only[run]at hr;split at hr
   ·rename_i st1 hs
    exact ⟨n,c,st1,st',hs,hr,hq⟩
   ·cases hr
 ·rintro ⟨n,c,st1,st',hs,hr,hq⟩
  exact ⟨n+1,c,st',by simp [run,hs,hr],hq⟩
theorem AO_nil:AO L [] k st Q↔AK L k st Q:=by
 constructor
 ·rintro ⟨n,c,st1,st',hs,hr,hq⟩
  simp only[stepL,Option.some.injEq]at hs;exact ⟨n,c,st',hs ▸ hr,hq⟩
 ·rintro ⟨n,c,st',hr,hq⟩
  exact ⟨n,c,st,st',rfl,hr,hq⟩
theorem AO_step {o:AI} {l:List AI} {st1:St} (h : ∀ C,stepI C o st=some st1):AO L (o::l) k st Q↔AO L l k st1 Q:=by
 constructor
 ·rintro ⟨n,c,st2,st',hs,hr,hq⟩
  simp only[stepL,h]at hs;exact ⟨n,c,st2,st',hs,hr,hq⟩
 ·rintro ⟨n,c,st2,st',hs,hr,hq⟩
  exact ⟨n,c,st2,st',by simpa only[stepL,h] using hs,hr,hq⟩
theorem AO_not {d:Option Nat} {op:AOp} {g:Option (Nat × Bool)} {ban:List Nat} {l:List AI} (h:guardA st g=some false):AO L (⟨d,op,g,ban⟩::l) k st Q↔AO L l k (st.dst d (.tup [])) Q :=
 AO_step fun C=>by simp [stepI,h]
theorem clAt_num (c:Nat):(clAt L c).num=L.num:=rfl
theorem AO_opL {d:Option Nat} {op:AOp} {g:Option (Nat × Bool)} {ban:List Nat} {l:List AI} {E:Eff} (h:guardA st g=some true) (he : ∀ c,eff (clAt L c) ban st.ev st.own op=some E):AO L (⟨d,op,g,ban⟩::l) k st Q↔AO L l k (st.app d E) Q:=by
 have h : ∀ c,stepI (clAt L c) ⟨d,op,g,ban⟩ st=some (st.app d E):=fun c=>by simp [stepI,h,he]
 constructor
 ·rintro ⟨n,c,st2,st',hs,hr,hq⟩
  simp only[stepL,h]at hs;exact ⟨n,c,st2,st',hs,hr,hq⟩
 ·rintro ⟨n,c,st2,st',hs,hr,hq⟩
  exact ⟨n,c,st2,st',by simpa only[stepL,h] using hs,hr,hq⟩
theorem AO_call {d:Option Nat} {f:Nat} {xs:List Opd} {g:Option (Nat × Bool)} {ban:List Nat} {l:List AI} {vs:List AV} {r:AV} (h:guardA st g=some true) (hv:(xs.map st.ev).mapM (snapA (st.own.hide ban) true)=some vs) (hr:Ev L f vs r) :
  AO L (⟨d,.call f xs,g,ban⟩::l) k st Q↔AO L l k (st.dst d r) Q:=by
 have hst : ∀ c r',evP L c f vs=some r'→stepI (clAt L c) ⟨d,.call f xs,g,ban⟩ st=some (st.dst d r'):=fun c r' hc=>by
  have hc':(clAt L c).pure f vs=some r':=hc;simp [stepI,h,eff,hv,hc',St.app]
 constructor
 ·rintro ⟨n,c,st2,st',hs,hrn,hq⟩
  simp only[stepL]at hs;cases hI:stepI (clAt L c) ⟨d,.call f xs,g,ban⟩ st with
  | none=>simp [hI]at hs
  | some st1 =>
   simp only[hI]at hs;cases hp:evP L c f vs with
   | none =>
    have hc':(clAt L c).pure f vs=none:=hp;simp [stepI,h,eff,hv,hc']at hI
   | some r' =>
    obtain rfl:r'=r:=Ev.det ⟨c,hp⟩ hr;rw[hst c r' hp]at hI;obtain rfl:=Option.some.inj hI;exact ⟨n,c,st2,st',hs,hrn,hq⟩
 ·rintro ⟨n,c,st2,st',hs,hrn,hq⟩
  obtain ⟨c',hc'⟩:=hr;have l1:=cl_le (L:=L) (Nat.le_max_left c c');have l2:=cl_le (L:=L) (Nat.le_max_right c c');refine ⟨n,max c c',st2,st',?_,run_mono l1 (Nat.le_refl n) hrn,hq⟩;simp only[stepL];rw[hst (max c c') r (l2.1 f vs r hc')];exact stepL_mono l1 hs
theorem AO_callp {d:Option Nat} {f:Nat} {x:Opd} {xs:List Opd} {g:Option (Nat × Bool)} {ban:List Nat} {l:List AI} {vs:List AV} {r:AV} (h:guardA st g=some true) (hx:st.ev x = .fn true f (L.num f) []) (hv:(xs.map st.ev).mapM (snapA st.own true)=some vs) (hr:Ev L f vs r) :
  AO L (⟨d,.callv x xs,g,ban⟩::l) k st Q↔AO L l k (st.dst d r) Q:=by
 have hst : ∀ c r',evP L c f vs=some r'→stepI (clAt L c) ⟨d,.callv x xs,g,ban⟩ st=some (st.dst d r'):=fun c r' hc=>by
  have hc':(clAt L c).pure f vs=some r':=hc;simp [stepI,h,eff,hx,clAt_num,hv,hc',St.app]
 constructor
 ·rintro ⟨n,c,st2,st',hs,hrn,hq⟩
  simp only[stepL]at hs;cases hI:stepI (clAt L c) ⟨d,.callv x xs,g,ban⟩ st with
  | none=>simp [hI]at hs
  | some st1 =>
   simp only[hI]at hs;cases hp:evP L c f vs with
   | none =>
    have hc':(clAt L c).pure f vs=none:=hp;simp [stepI,h,eff,hx,clAt_num,hv,hc']at hI
   | some r' =>
    obtain rfl:r'=r:=Ev.det ⟨c,hp⟩ hr;rw[hst c r' hp]at hI;obtain rfl:=Option.some.inj hI;exact ⟨n,c,st2,st',hs,hrn,hq⟩
 ·rintro ⟨n,c,st2,st',hs,hrn,hq⟩
  obtain ⟨c',hc'⟩:=hr;have l1:=cl_le (L:=L) (Nat.le_max_left c c');have l2:=cl_le (L:=L) (Nat.le_max_right c c');refine ⟨n,max c c',st2,st',?_,run_mono l1 (Nat.le_refl n) hrn,hq⟩;simp only[stepL];rw[hst (max c c') r (l2.1 f vs r hc')];exact stepL_mono l1 hs
theorem AO_callb {d:Option Nat} {f:Nat} {w:AV} {cs:List AV} {x:Opd} {xs:List Opd} {g:Option (Nat × Bool)} {ban:List Nat} {l:List AI} {vs:List AV} {r:AV} (h:guardA st g=some true) (hx:st.ev x = .fn true f (L.num f) (w::cs)) (hv:(AV.agg (w::cs)::xs.map st.ev).mapM (snapA st.own true)=some vs) (hr:Ev L f vs r) :
  AO L (⟨d,.callv x xs,g,ban⟩::l) k st Q↔AO L l k (st.dst d r) Q:=by
 have hst : ∀ c r',evP L c f vs=some r'→stepI (clAt L c) ⟨d,.callv x xs,g,ban⟩ st=some (st.dst d r'):=fun c r' hc=>by
  have hc':(clAt L c).pure f vs=some r':=hc;simp [stepI,h,eff,hx,clAt_num,hv,hc',St.app]
 constructor
 ·rintro ⟨n,c,st2,st',hs,hrn,hq⟩
  simp only[stepL]at hs;cases hI:stepI (clAt L c) ⟨d,.callv x xs,g,ban⟩ st with
  | none=>simp [hI]at hs
  | some st1 =>
   simp only[hI]at hs;cases hp:evP L c f vs with
   | none =>
    have hc':(clAt L c).pure f vs=none:=hp;simp [stepI,h,eff,hx,clAt_num,hv,hc']at hI
   | some r' =>
    obtain rfl:r'=r:=Ev.det ⟨c,hp⟩ hr;rw[hst c r' hp]at hI;obtain rfl:=Option.some.inj hI;exact ⟨n,c,st2,st',hs,hrn,hq⟩
 ·rintro ⟨n,c,st2,st',hs,hrn,hq⟩
  obtain ⟨c',hc'⟩:=hr;have l1:=cl_le (L:=L) (Nat.le_max_left c c');have l2:=cl_le (L:=L) (Nat.le_max_right c c');refine ⟨n,max c c',st2,st',?_,run_mono l1 (Nat.le_refl n) hrn,hq⟩;simp only[stepL];rw[hst (max c c') r (l2.1 f vs r hc')];exact stepL_mono l1 hs
theorem AO_callq {d:Option Nat} {f:Nat} {xs:List Opd} {g:Option (Nat × Bool)} {ban:List Nat} {l:List AI} {r:AV} (h:guardA st g=some true) (hq:(xs.map st.ev).all dq=true) (hr:Ev L f ((xs.map st.ev).map unl) r) (hfl:FlatR r∨DeepR r) :
  AO L (⟨d,.callq f xs,g,ban⟩::l) k st Q↔AO L l k (st.dst d (lnR r)) Q:=by
 have hst : ∀ c,evP L c f ((xs.map st.ev).map unl)=some r→stepI (clAt L c) ⟨d,.callq f xs,g,ban⟩ st=some (st.dst d (lnR r)):=fun c hc=>by
  have hc':(clAt L c).pure f ((xs.map st.ev).map unl)=some r:=hc;simp only[stepI,h,eff];rw[if_pos hq,hc'];simp only[if_pos hfl,Option.map_some,St.app]
 constructor
 ·rintro ⟨n,c,st2,st',hs,hrn,hq'⟩
  simp only[stepL]at hs;cases hp:evP L c f ((xs.map st.ev).map unl) with
  | none =>
   have hc':(clAt L c).pure f ((xs.map st.ev).map unl)=none:=hp;simp only[stepI,h,eff]at hs;rw[if_pos hq,hc']at hs;simp at hs
  | some r' =>
   obtain rfl:r'=r:=Ev.det ⟨c,hp⟩ hr;rw[hst c hp]at hs;exact ⟨n,c,st2,st',hs,hrn,hq'⟩
 ·rintro ⟨n,c,st2,st',hs,hrn,hq'⟩
  obtain ⟨c',hc'⟩:=hr;have l1:=cl_le (L:=L) (Nat.le_max_left c c');have l2:=cl_le (L:=L) (Nat.le_max_right c c');refine ⟨n,max c c',st2,st',?_,run_mono l1 (Nat.le_refl n) hrn,hq'⟩;simp only[stepL];rw[hst (max c c') (l2.1 f _ r hc')];exact stepL_mono l1 hs
theorem AO_callr {d:Option Nat} {s f:Nat} {xs:List Opd} {g:Option (Nat × Bool)} {ban:List Nat} {l:List AI} {vs:List AV} {z:Nat} {es:List (List AV)} (h:guardA st g=some true) (hv:(xs.map st.ev).mapM (snapN (st.own.hide ban) true)=some vs) (hr:EvR L f vs z es)
  (ha:AO L l k (st.app d (.new s ⟨z,es⟩ (fun t => .row s t z 0 es.length))) Q):AO L (⟨d,.callr s f xs,g,ban⟩::l) k st Q:=by
 obtain ⟨n,c,st2,st',hs,hrn,hq⟩:=ha;obtain ⟨c',hc'⟩:=hr;have l1:=cl_le (L:=L) (Nat.le_max_left c c');have l2:=cl_le (L:=L) (Nat.le_max_right c c');have hc2:adoptR ((clAt L (max c c')).inn f vs Own.emp)=some (z,es):=adoptR_mono (l2.2.1 f vs Own.emp) hc';refine ⟨n,max c c',st2,st',?_,run_mono l1 (Nat.le_refl n) hrn,hq⟩;simp only[stepL];have:stepI (clAt L (max c c')) ⟨d,.callr s f xs,g,ban⟩ st=some (st.app d (.new s ⟨z,es⟩ (fun t => .row s t z 0 es.length))):=by
  simp only[stepI,h,eff,hv,hc2,Option.map_some]
 rw[this];exact stepL_mono l1 hs
def EvS (L:Lib) (s f:Nat) (vs:List AV) (q:Site) (r:AV) (q':Site):Prop := ∃ n,∀ o:Own,o s=q→evI L n f vs o=some (r,o.put s q')
theorem AO_cals {d:Option Nat} {s f:Nat} {xs:List Opd} {g:Option (Nat × Bool)} {ban:List Nat} {l:List AI} {r:AV} {q':Site} (h:guardA st g=some true) (hr:EvS L s f (xs.map st.ev) (st.own s) r q')
  (ha:AO L l k (st.app d (.upn s q' r)) Q):AO L (⟨d,.cals s f xs,g,ban⟩::l) k st Q:=by
 obtain ⟨n,c,st2,st',hs,hrn,hq⟩:=ha;obtain ⟨c',hc'⟩:=hr;have l1:=cl_le (L:=L) (Nat.le_max_left c c');have l2:=cl_le (L:=L) (Nat.le_max_right c c');have hc2:calsE (clAt L (max c c')) f (xs.map st.ev) s (st.own s)=some (r,q'):=calsE_iff.2 fun o ho=>l2.2.1 f _ o _ (hc' o ho)
 refine ⟨n,max c c',st2,st',?_,run_mono l1 (Nat.le_refl n) hrn,hq⟩;simp only[stepL];have:stepI (clAt L (max c c')) ⟨d,.cals s f xs,g,ban⟩ st=some (st.app d (.upn s q' r)):=by
  simp only[stepI,h,eff,hc2,Option.map_some]
 rw[this];exact stepL_mono l1 hs
theorem AO_calb {d:Option Nat} {f s:Nat} {xs:List Opd} {g:Option (Nat × Bool)} {l:List AI} {r:AV} {o':Own} (h:guardA st g=some true) (h0:o' s=⟨0,fun _=>none⟩) (hr : ∃ n,∀ o:Own,(∀ q,q≠s→o q=st.own q)→evI L n f (xs.map st.ev) o=some (r,o'.put s (o s)))
  (ha:AO L l k { (st.dst d r) with own:=o'.put s (st.own s) } Q):AO L (⟨d,.calli f xs,g,[s]⟩::l) k st Q:=by
 obtain ⟨n,c,st2,st',hs,hrn,hq⟩:=ha;obtain ⟨c',hc'⟩:=hr;have l1:=cl_le (L:=L) (Nat.le_max_left c c');have l2:=cl_le (L:=L) (Nat.le_max_right c c');have hc2:calbE (clAt L (max c c')) f (xs.map st.ev) s st.own=some (r,o'):=calbE_iff h0 fun o ho=>l2.2.1 f _ o _ (hc' o ho)
 refine ⟨n,max c c',st2,st',?_,run_mono l1 (Nat.le_refl n) hrn,hq⟩;simp only[stepL];have:stepI (clAt L (max c c')) ⟨d,.calli f xs,g,[s]⟩ st=some { (st.dst d r) with own:=o'.put s (st.own s) }:=by
  simp only[stepI,h,eff,hc2,Option.map_some,St.app]
 rw[this];exact stepL_mono l1 hs
theorem AO_calli {d:Option Nat} {f:Nat} {xs:List Opd} {g:Option (Nat × Bool)} {ban:List Nat} {l:List AI} {r:AV} {o':Own} (hb : ∀ s,ban≠[s]) (h:guardA st g=some true) (hr:EvI L f (xs.map st.ev) st.own r o') :
  AO L (⟨d,.calli f xs,g,ban⟩::l) k st Q↔AO L l k { (st.dst d r) with own:=o' } Q:=by
 have hst : ∀ c r' o1,evI L c f (xs.map st.ev) st.own=some (r',o1)→stepI (clAt L c) ⟨d,.calli f xs,g,ban⟩ st=some { (st.dst d r') with own:=o1 }:=fun c r' o1 hc=>by
  have hc':(clAt L c).inn f (xs.map st.ev) st.own=some (r',o1):=hc;have he:eff (clAt L c) ban st.ev st.own (.calli f xs)=some (.tur r' o1):=by
   match ban,hb with
   | [],_=>simp only[eff];rw[hc'];rfl
   | [s],hb=>exact absurd rfl (hb s)
   | s::s'::q,_=>simp only[eff];rw[hc'];rfl
  simp [stepI,h,he,St.app]
 constructor
 ·rintro ⟨n,c,st2,st',hs,hrn,hq⟩
  simp only[stepL]at hs;cases hI:stepI (clAt L c) ⟨d,.calli f xs,g,ban⟩ st with
  | none=>simp [hI]at hs
  | some st1 =>
   simp only[hI]at hs;cases hp:evI L c f (xs.map st.ev) st.own with
   | none =>
    have hc':(clAt L c).inn f (xs.map st.ev) st.own=none:=hp;have he:eff (clAt L c) ban st.ev st.own (.calli f xs)=none:=by
     match ban,hb with
     | [],_=>simp only[eff];rw[hc'];rfl
     | [s],hb=>exact absurd rfl (hb s)
     | s::s'::q,_=>simp only[eff];rw[hc'];rfl
    simp [stepI,h,he]at hI
   | some x =>
    obtain ⟨r',o1⟩:=x;obtain ⟨rfl,rfl⟩:=EvI.det ⟨c,hp⟩ hr;rw[hst c r' o1 hp]at hI;obtain rfl:=Option.some.inj hI;exact ⟨n,c,st2,st',hs,hrn,hq⟩
 ·rintro ⟨n,c,st2,st',hs,hrn,hq⟩
  obtain ⟨c',hc'⟩:=hr;have l1:=cl_le (L:=L) (Nat.le_max_left c c');have l2:=cl_le (L:=L) (Nat.le_max_right c c');refine ⟨n,max c c',st2,st',?_,run_mono l1 (Nat.le_refl n) hrn,hq⟩;simp only[stepL];rw[hst (max c c') r o' (l2.2.1 f _ _ _ hc')];exact stepL_mono l1 hs
theorem AO_callv {d:Option Nat} {f:Nat} {cs:List AV} {x:Opd} {xs:List Opd} {g:Option (Nat × Bool)} {ban:List Nat} {l:List AI} {r:AV} {o':Own} (h:guardA st g=some true) (hx:st.ev x = .fn false f (L.num f) cs) (hr:EvI L f (xs.map st.ev++cs) st.own r o') :
  AO L (⟨d,.callv x xs,g,ban⟩::l) k st Q↔AO L l k { (st.dst d r) with own:=o' } Q:=by
 have hst : ∀ c r' o1,evI L c f (xs.map st.ev++cs) st.own=some (r',o1)→stepI (clAt L c) ⟨d,.callv x xs,g,ban⟩ st=some { (st.dst d r') with own:=o1 }:=fun c r' o1 hc=>by
  have hc':(clAt L c).inn f (xs.map st.ev++cs) st.own=some (r',o1):=hc;simp [stepI,h,eff,hx,clAt_num,hc',St.app]
 constructor
 ·rintro ⟨n,c,st2,st',hs,hrn,hq⟩
  simp only[stepL]at hs;cases hI:stepI (clAt L c) ⟨d,.callv x xs,g,ban⟩ st with
  | none=>simp [hI]at hs
  | some st1 =>
   simp only[hI]at hs;cases hp:evI L c f (xs.map st.ev++cs) st.own with
   | none =>
    have hc':(clAt L c).inn f (xs.map st.ev++cs) st.own=none:=hp;simp [stepI,h,eff,hx,clAt_num,hc']at hI
   | some x =>
    obtain ⟨r',o1⟩:=x;obtain ⟨rfl,rfl⟩:=EvI.det ⟨c,hp⟩ hr;rw[hst c r' o1 hp]at hI;obtain rfl:=Option.some.inj hI;exact ⟨n,c,st2,st',hs,hrn,hq⟩
 ·rintro ⟨n,c,st2,st',hs,hrn,hq⟩
  obtain ⟨c',hc'⟩:=hr;have l1:=cl_le (L:=L) (Nat.le_max_left c c');have l2:=cl_le (L:=L) (Nat.le_max_right c c');refine ⟨n,max c c',st2,st',?_,run_mono l1 (Nat.le_refl n) hrn,hq⟩;simp only[stepL];rw[hst (max c c') r o' (l2.2.1 f _ _ _ hc')];exact stepL_mono l1 hs
theorem AK_mono {Q':St→Prop} (h:AK L k st Q) (hq : ∀ s,Q s→Q' s):AK L k st Q':=by
 obtain ⟨n,c,st',hr,hh⟩:=h;exact ⟨n,c,st',hr,hq _ hh⟩
theorem EvI.intro {f:Nat} {fn:AFn} {vs:List AV} {o:Own} {r:AV} {o':Own} (hL:L f=some fn) (hp:vs.length=fn.pars) (h:AK L [.code fn.body] ⟨initTm 0 vs,o⟩ (fun st=>(fn.res.mapM (resOf st)).map resVal=some r∧st.own=o')):EvI L f vs o r o':=by
 obtain ⟨n,c,st',hr,h1,h2⟩:=h;refine ⟨max n c+1,?_⟩;rw[evI_succ];simp only[hL,hp,if_true];rw[run_mono (cl_le (L:=L) (Nat.le_max_right n c)) (Nat.le_max_left n c) hr];cases hm:fn.res.mapM (resOf st') with
 | none=>rw[hm]at h1;cases h1
 | some rs =>
  rw[hm]at h1;simp only[Option.map_some,Option.some.injEq]at h1;simp [hm,h1,h2]
theorem EvD.intro {f:Nat} {fn:AFn} {vs:List AV} {r:AV} (hL:L f=some fn) (hp:vs.length=fn.pars) (h:AK L [.code fn.body] ⟨initTm 0 vs,Own.emp⟩ (fun st=>((fn.res.mapM (resOf st)).map resVal).bind (snapR st.own false)=some r∧Clean r)):EvD L f vs r:=by
 obtain ⟨n,c,st',hr,h1,h2⟩:=h;cases hm:(fn.res.mapM (resOf st')).map resVal with
 | none=>rw[hm]at h1;cases h1
 | some r0 =>
  rw[hm]at h1;simp only[Option.bind_some]at h1;obtain ⟨q,hq⟩:=EvI.intro (o:=Own.emp) (r:=r0) (o':=st'.own) hL hp ⟨n,c,st',hr,hm,rfl⟩;refine ⟨q,?_⟩;unfold pureP;simp [hq,h1,h2]
theorem EvD.ev {f:Nat} {fn:AFn} {vs:List AV} {r:AV} (hL:L f=some fn) (h:EvD L f vs r) (hs:fn.spl=false:=by rfl):Ev L f vs r:=by
 obtain ⟨n,h⟩:=h;have hs:L.spl f=false:=by simp only[Lib.spl,hL,hs]
 exact ⟨n,by unfold evP pureX pureS;simp only[hL];rw[hs];exact h⟩
theorem EvD.cons {f:Nat} {q:Bool} {e:List AV} {es:List (List AV)} {vs:List AV} {r:AV} (h:EvD L f (.sl q (e::es)::vs) r):Ev L f (.sl q (e::es)::vs) r:=by
 obtain ⟨n,h⟩:=h;refine ⟨n,?_⟩;obtain ⟨fa,hL⟩ : ∃ fa,L f=some fa:=by
  cases hL:L f with
  | some fa=>exact ⟨fa,rfl⟩
  | none =>
   have e:evI L n f (.sl q (e::es)::vs) Own.emp=none:=by
    cases n with
    | zero=>rfl
    | succ n=>rw[evI_succ,hL]
   unfold pureP at h;simp only[e]at h;cases h
 unfold evP pureX pureS;simp only[hL];split
 ·rename_i heq;simp at heq
 ·exact h
theorem EvD.nil {f:Nat} {fn:AFn} {q:Bool} {vs:List AV} {r:AV} (hL:L f=some fn) (h1:EvD L f (.con (.bool true)::vs) r) (h2:EvD L f (.con (.bool false)::vs) r) (hs:fn.spl=true:=by rfl):Ev L f (.sl q []::vs) r:=by
 obtain ⟨n,h1⟩:=h1;obtain ⟨n',h2⟩:=h2;have hs:L.spl f=true:=by simp only[Lib.spl,hL,hs]
 have k1:=pureP_mono (fun vs r h=>(cl_le (L:=L) (Nat.le_max_left n n')).2.1 f vs Own.emp r h) h1;have k2:=pureP_mono (fun vs r h=>(cl_le (L:=L) (Nat.le_max_right n n')).2.1 f vs Own.emp r h) h2;refine ⟨max n n',?_⟩;unfold evP pureX pureS;simp only[hL];rw[hs];simp only;have k1':pureP (fun vs=>evI L (max n n') f vs Own.emp) (.con (.bool true)::vs)=some r:=k1;have k2':pureP (fun vs=>evI L (max n n') f vs Own.emp) (.con (.bool false)::vs)=some r:=k2;rw[k1',k2'];simp
theorem Ev.intro {f:Nat} {fn:AFn} {vs:List AV} {r:AV} (hL:L f=some fn) (hp:vs.length=fn.pars) (h:AK L [.code fn.body] ⟨initTm 0 vs,Own.emp⟩ (fun st=>((fn.res.mapM (resOf st)).map resVal).bind (snapR st.own false)=some r∧Clean r)) (hs:fn.spl=false:=by rfl):Ev L f vs r :=
 (EvD.intro hL hp h).ev hL hs
theorem Ev.told {f:Nat} {vs:List AV} {r:AV} (hL:L f=none) (h:L.ext f vs=some r) (hc:Clean r):Ev L f vs r:=by
 refine ⟨0,?_⟩;unfold evP pureX;simp only[hL,h];exact if_pos hc
end
end Go.Eng

namespace Go.Eng
section
variable {L:Lib} {k:List It} {tm:Tm} {own:Own} {Q:St→Prop} {l:List AI} {ban:List Nat} {d:Nat}
theorem tget_cons (i:Nat) (v:AV) (r:Tm) (j:Nat):tget ((i,v)::r) j=if j=i then v else tget r j:=rfl
theorem tget_nil (j:Nat):tget [] j = .any:=rfl
theorem tdrop_cons (i:Nat) (v:AV) (r:Tm) (l:List Nat):tdrop ((i,v)::r) l=if l.contains i then tdrop r l else (i,v)::tdrop r l:=rfl
theorem tdrop_nil (l:List Nat):tdrop [] l=[]:=rfl
theorem initTm_cons (i:Nat) (v:AV) (r:List AV):initTm i (v::r)=(i,v)::initTm (i+1) r:=rfl
end
end Go.Eng

namespace Go.Eng
section
variable {L:Lib} {k:List It} {tm:Tm} {own:Own} {st:St} {Q:St→Prop} {l:List AI} {ban:List Nat} {d:Nat} {dst:Option Nat}
section
variable {x y:Opd} {kd:IntKind} {a b:Int}
end
def Res (fn:AFn) (r:AV) (st:St):Prop:=((fn.res.mapM (resOf st)).map resVal).bind (snapR st.own false)=some r∧Clean r
theorem Ev.fwd {f:Nat} {fn:AFn} {vs:List AV} {r:AV} (hL:L f=some fn) (hp:vs.length=fn.pars) (h:AK L [.code fn.body] ⟨initTm 0 vs,Own.emp⟩ (Res fn r)) (hs:fn.spl=false:=by rfl):Ev L f vs r:=Ev.intro hL hp h hs
theorem EvD.fwd {f:Nat} {fn:AFn} {vs:List AV} {r:AV} (hL:L f=some fn) (hp:vs.length=fn.pars) (h:AK L [.code fn.body] ⟨initTm 0 vs,Own.emp⟩ (Res fn r)):EvD L f vs r:=EvD.intro hL hp h
theorem Res.bool {fn:AFn} {st:St} (x:Bool) {r:AV} (h:((fn.res.mapM (resOf st)).map resVal).bind (snapR st.own false)=some (.bool x)) (e : .bool x=r):Res fn r st:=by
 subst e;exact ⟨h,by simp [Clean]⟩
theorem Res.int {fn:AFn} {st:St} (kd:IntKind) (x:Int) {r:AV} (h:((fn.res.mapM (resOf st)).map resVal).bind (snapR st.own false)=some (.int kd x)) (e : .int kd x=r):Res fn r st:=by
 subst e;exact ⟨h,by simp [Clean]⟩
end
attribute [irreducible] Res
end Go.Eng

namespace Go.Eng
def pw (n:Int):Int:=2^n.toNat
theorem pw_pos (n:Int):1≤pw n:=by
 have:0<pw n:=Int.pow_pos (by decide)
 omega
theorem pw_le {n m:Int} (h:n≤m):pw n≤pw m:=by
 unfold pw;have h':n.toNat≤m.toNat:=by omega
 have h2:=Nat.pow_le_pow_right (n:=2) (by decide) h';have h3:((2^n.toNat:Nat):Int)≤((2^m.toNat:Nat):Int):=by exact_mod_cast h2
 simpa using h3
theorem pw_le62 {n:Int} (h:n≤62):pw n≤4611686018427387904:=pw_le (m:=62) h
theorem pw_succ {n:Int} (h:1≤n):pw n=2*pw (n-1):=by
 unfold pw;have e:n.toNat=(n-1).toNat+1:=by omega
 rw[e,Int.pow_succ,Int.mul_comm]
theorem wrap_pos {a:Int} (h:0≤a) (h':a≤9223372036854775807):IntKind.i64.wrap a=a:=IntWalk.i64_in _ ⟨by omega,h'⟩
theorem shl_one {k2:IntKind} {n:Int} (h:0≤n∧n≤62):intBin .shl .i64 1 k2 n=some (.int .i64 (pw n)):=by
 have h1:=pw_le62 h.2;have h2:=pw_pos n;have e:(1:Int)*2^(min n.toNat IntKind.i64.bits)=pw n:=by
  have:min n.toNat IntKind.i64.bits=n.toNat:=by simp only[IntKind.bits];omega
  rw[this,Int.one_mul];rfl
 simp only[intBin];rw[if_neg (by omega),e,wrap_pos (by omega) (by omega)]
theorem shr_div {k2:IntKind} {a n:Int} (h:0≤n∧n≤63):intBin .shr .i64 a k2 n=some (.int .i64 (a/pw n)):=by
 have h2:=pw_pos n;have e:(2:Int)^(min n.toNat IntKind.i64.bits)=pw n:=by
  have:min n.toNat IntKind.i64.bits=n.toNat:=by simp only[IntKind.bits];omega
  rw[this];rfl
 simp only[intBin];rw[if_neg (by omega),e,Int.fdiv_eq_ediv_of_nonneg _ (by omega)]
theorem and_mask {a p n:Int} (hp:p=pw n) (h:0≤n∧n≤62):intBin .and .i64 a .i64 (p-1)=some (.int .i64 (a%p)):=by
 have h1:=pw_le62 h.2;have h2:=pw_pos n;simp only[intBin,if_true];have hn:n.toNat≤64:=by omega
 have e0:pw n=((2^n.toNat:Nat):Int):=by simp [pw]
 have e1:(BitVec.ofInt IntKind.i64.bits (p-1)).toNat=2^n.toNat-1:=by
  have hq:(2:Nat)^n.toNat≤4611686018427387904:=by
   have:((2^n.toNat:Nat):Int)≤4611686018427387904:=by rw[←e0];exact h1
   omega
  rw[BitVec.toNat_ofInt];simp only[IntKind.bits];rw[hp,e0];have hz:1≤2^n.toNat:=Nat.one_le_two_pow;omega
 have e2:(BitVec.ofInt IntKind.i64.bits a).toNat=(a%18446744073709551616).toNat:=by
  rw[BitVec.toNat_ofInt];rfl
 have e3:((a%18446744073709551616).toNat%2^n.toNat:Nat)=(a%pw n).toNat:=by
  have hd:(pw n) ∣ 18446744073709551616:=by
   refine ⟨2^(64-n.toNat),?_⟩;unfold pw;rw[←Int.pow_add,show n.toNat+(64-n.toNat)=64 by omega];rfl
  have h3:(a%18446744073709551616)%pw n=a%pw n:=Int.emod_emod_of_dvd a hd;have h4:(((a%18446744073709551616).toNat%2^n.toNat:Nat):Int)=(a%18446744073709551616)%pw n:=by
   rw[Int.natCast_emod,←e0,Int.toNat_of_nonneg (by omega)]
  have h5:0≤a%pw n:=Int.emod_nonneg _ (by omega);omega
 have h5:0≤a%pw n:=Int.emod_nonneg _ (by omega);have h6:a%pw n<pw n:=Int.emod_lt_of_pos _ (by omega);rw[BitVec.toNat_and,e1,Nat.and_two_pow_sub_one_eq_mod,e2,e3,hp,Int.toNat_of_nonneg h5,wrap_pos h5 (by omega)]
theorem and_one {a:Int}:intBin .and .i64 a .i64 1=some (.int .i64 (a%2)):=and_mask (p:=2) (n:=1) rfl ⟨by decide,by decide⟩
theorem tmod_pos {a m:Int} (hm:0<m):a.tmod m=if 0≤a∨a%m=0 then a%m else a%m-m:=by
 have h:=Int.tmod_eq_emod (a:=a) (b:=m);rw[h];have hd:m ∣ a↔a%m=0:=Int.dvd_iff_emod_eq_zero;by_cases h0:0≤a∨a%m=0
 ·rw[if_pos h0,if_pos (by rcases h0 with h0|h0;exact Or.inl h0;exact Or.inr (hd.2 h0))];omega
 ·rw[if_neg h0,if_neg (fun h=>h0 (h.imp id hd.1))]
  have:(m.natAbs:Int)=m:=by omega
  omega
theorem tdiv_pos {a m:Int} (hm:0<m):a.tdiv m=if 0≤a∨a%m=0 then a/m else a/m+1:=by
 have h:=Int.tdiv_eq_ediv (a:=a) (b:=m);rw[h];have hd:m ∣ a↔a%m=0:=Int.dvd_iff_emod_eq_zero;by_cases h0:0≤a∨a%m=0
 ·rw[if_pos h0,if_pos (by rcases h0 with h0|h0;exact Or.inl h0;exact Or.inr (hd.2 h0))];omega
 ·rw[if_neg h0,if_neg (fun h=>h0 (h.imp id hd.1)),Int.sign_eq_one_of_pos hm]
theorem ediv_range {a m:Int} (hm:1≤m) (h : -9223372036854775808≤a∧a≤9223372036854775807) : -9223372036854775808≤a/m∧a/m≤9223372036854775807:=by
 constructor
 ·rw[Int.le_ediv_iff_mul_le (by omega)]
  have:=Int.mul_le_mul_of_nonpos_left (a := -9223372036854775808) (b:=m) (c:=1) (by omega) hm
  omega
 ·have:a/m<9223372036854775808:=by
   rw[Int.ediv_lt_iff_lt_mul (by omega)];have:=Int.mul_le_mul_of_nonneg_left (c:=9223372036854775808) (a:=1) (b:=m) hm (by omega)
   omega
  omega
theorem ediv_half {a m:Int} (hm:2≤m) (h : -9223372036854775808≤a∧a≤9223372036854775807) : -4611686018427387904≤a/m∧a/m≤4611686018427387904:=by
 constructor
 ·rw[Int.le_ediv_iff_mul_le (by omega)]
  have:=Int.mul_le_mul_of_nonpos_left (a := -4611686018427387904) (b:=m) (c:=2) (by omega) hm
  omega
 ·have:a/m<4611686018427387904+1:=by
   rw[Int.ediv_lt_iff_lt_mul (by omega)];have:=Int.mul_le_mul_of_nonneg_left (c:=4611686018427387905) (a:=2) (b:=m) hm (by omega)
   omega
  omega
theorem half_bit {v h:Int} (hh:1≤h):(v/h)%2=if h≤v%(2*h) then 1 else 0:=by
 have e:v/h=v%(2*h)/h+2*(v/(2*h)):=by
  conv=>lhs;rw[←Int.emod_add_mul_ediv v (2*h)]
  rw[show 2*h*(v/(2*h))=h*(2*(v/(2*h))) by rw[Int.mul_comm 2 h,Int.mul_assoc],Int.add_mul_ediv_left _ _ (by omega)]
 have h0:0≤v%(2*h):=Int.emod_nonneg _ (by omega);have h1:v%(2*h)<2*h:=Int.emod_lt_of_pos _ (by omega);rw[e];by_cases hc:h≤v%(2*h)
 ·have:v%(2*h)/h=1:=by
   have a1:1≤v%(2*h)/h:=by rw[Int.le_ediv_iff_mul_le (by omega)];omega
   have a2:v%(2*h)/h<2:=by rw[Int.ediv_lt_iff_lt_mul (by omega)];omega
   omega
  rw[if_pos hc,this];omega
 ·have:v%(2*h)/h=0:=Int.ediv_eq_zero_of_lt h0 (by omega)
  rw[if_neg hc,this];omega
section
variable {L:Lib} {k:List It} {tm:Tm} {own:Own} {Q:St→Prop} {l:List AI} {ban:List Nat} {d:Nat} {x y:Opd} {a b n p:Int} {k2:IntKind}
end
end Go.Eng

namespace Go.Eng
theorem tget_tdrop (ts:List Nat) (j:Nat) : ∀ tm:Tm,tget (tdrop tm ts) j=if ts.contains j then .any else tget tm j
 | []=>by simp [tdrop_nil,tget_nil]
 | (i,u)::r=>by
  rw[tdrop_cons];by_cases h:ts.contains i=true
  ·rw[if_pos h,tget_tdrop ts j r,tget_cons]
   by_cases h2:j=i
   ·subst h2;rw[if_pos h,if_pos h]
   ·rw[if_neg h2]
  ·rw[if_neg h,tget_cons,tget_cons,tget_tdrop ts j r]
   by_cases h2:j=i
   ·subst h2;rw[if_pos rfl,if_pos rfl,if_neg h]
   ·rw[if_neg h2,if_neg h2]
def St.eqv (a b:St):Prop:=a.own=b.own ∧ ∀ j,tget a.tm j=tget b.tm j
theorem St.eqv.ev {a b:St} (h:a.eqv b):a.ev=b.ev:=by
 funext x;cases x with
 | t n=>exact h.2 n
 | c v=>rfl
theorem St.eqv.dst {a b:St} (h:a.eqv b) (d:Option Nat) (v:AV):(a.dst d v).eqv (b.dst d v):=by
 cases d with
 | none=>exact h
 | some d=>exact ⟨h.1,fun j=>by simp only[St.dst,tget_tput,h.2]⟩
theorem St.dst_own (a:St) (d:Option Nat) (v:AV):(a.dst d v).own=a.own:=by cases d<;>rfl
theorem St.eqv.app {a b:St} (h:a.eqv b) (d:Option Nat) (E:Eff):(a.app d E).eqv (b.app d E):=by
 cases E with
 | val v=>exact h.dst d v
 | new s c v=>simp only[St.app,h.1];exact ⟨rfl,(h.dst d _).2⟩
 | vir s c v=>simp only[St.app,h.1];exact ⟨rfl,(h.dst d _).2⟩
 | tur v o=>exact ⟨rfl,(h.dst d v).2⟩
 | upd s x=>simp only[St.app,h.1];exact ⟨rfl,(h.dst d _).2⟩
 | upn s x v=>simp only[St.app,h.1];exact ⟨rfl,(h.dst d _).2⟩
 | tub s v o=>simp only[St.app,h.1];exact ⟨rfl,(h.dst d _).2⟩
theorem St.eqv.guard {a b:St} (h:a.eqv b) (g:Option (Nat × Bool)):guardA a g=guardA b g:=by
 cases g with
 | none=>rfl
 | some g=>simp only[guardA,h.2]
def clo (Q:St→Prop) (s:St):Prop := ∃ s',s'.eqv s∧Q s'
theorem clo.intro {Q:St→Prop} {s:St} (h:Q s):clo Q s:=⟨s,⟨rfl,fun _=>rfl⟩,h⟩
def memN (j:Nat):List Nat→Bool
 | []=>false
 | i::r=>bif Nat.beq j i then true else memN j r
theorem Res.eqv {fn:AFn} {r:AV} {a b:St} (h:a.eqv b) (hr:Res fn r a):Res fn r b:=by
 have e:resOf a=resOf b:=by
  funext x;cases x with
  | tmp t=>simp only[resOf,h.2]
  | cell t agg n=>simp only[resOf,h.2,h.1]
 unfold Res at hr ⊢;rw[e,h.1]at hr;exact hr
theorem Ev.go {L:Lib} {f:Nat} {fn:AFn} {vs:List AV} {r:AV} (hL:L f=some fn) (hp:vs.length=fn.pars) (h:AK L [.code fn.body] ⟨initTm 0 vs,Own.emp⟩ (clo (Res fn r))) (hs:fn.spl=false:=by rfl):Ev L f vs r :=
 Ev.fwd hL hp (AK_mono h fun s hs=>by
  obtain ⟨s',he,hq⟩:=hs;exact Res.eqv he hq) hs
abbrev encInt (n:Int):List AV:=[.int .i64 n]
section
variable {L:Lib} {k:List It} {tm:Tm} {own:Own} {Q:St→Prop} {l:List AI} {ban:List Nat} {d:Nat} {x i:Opd} {kd:IntKind} {a:Int} {q:Bool} {α:Type} {es:List α} {enc:α→List AV} {z:Nat}
end
end Go.Eng
