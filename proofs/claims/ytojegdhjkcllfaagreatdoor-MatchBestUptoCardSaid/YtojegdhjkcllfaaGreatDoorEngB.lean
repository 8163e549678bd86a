/- The engine. -/
import Derived.Test.YtojegdhjkcllfaaGreatDoorEngA
import Derived.Orders
import Derived.OrdersIn
import Derived.CallsIn
import Derived.RangeFuncIn
import Derived.RangeFuncRecord
import Derived.RangeFuncLeaves
import Derived.Lib.Index
import Derived.Lib.IndexBytes
import Derived.Lib.Join
set_option linter.all false
namespace Go.Eng
open Go.RowKit
variable [Far]
section
variable {P:Program}(T:TO P)
theorem new_of{H:IHeap}{j:J}{w:World}{x:INew}{s:Step}{m:Sem Value}(h:Step.ofNew x=some s)(hok:∀ o f,x=some (o,f)->NewOk j w ((Next.value <$> m).run P w) o f):
 StepOk H j w ((do pure (Next.value (<-m)):Sem Next).run P w) s:=by
 unfold Step.ofNew at h
 split at h
 ·rename_i o f
  injection h with h;subst h
  have:=hok o f rfl
  simp only[StepOk]
  rw[run_v]
  simpa using this
 ·cases h
theorem map_of{α:Type}{x:Option α}{f:α->Step}{s:Step}(h:x.map f=some s):∃ a,x=some a∧f a=s:=by
 cases x with
 |none=>cases h
 |some a=>exact⟨a,rfl,by simpa using h⟩
theorem inilCheck_ok{H:IHeap}{x:Operand}{i r:IV}(h:inilCheck i=some r){j:J}{w:World}{ρ':Operand->Value}{v:Value}(hx:VR j w i v)(hv:ρ' x=v){dst:Option Tmp}{type:TypeId}{pos:String}{after:Array Edge}{guard:Option (Nat×Bool)}:
 StepOk H j w ((execOp ρ' ⟨dst,.nilCheck x,type,pos,after,guard⟩).run P w) (.val r):=by
 unfold inilCheck at h
 cases hx<;>simp only[]at h<;>(first |(cases h;done) |skip)
 case fn f first cap first' cap' h1 h2 h3 h4=>
  cases f<;>simp only[]at h<;>(first |(cases h;done) |skip)<;>(injection h with h;subst h;exact⟨_,by simp[execOp,hv],.fn h1 h2 h3 h4⟩)
 all_goals injection h with h;subst h
 case ptr b o B d hj=>exact⟨_,by simp[execOp,hv],.ptr hj⟩
 case fp cs o B off vs hB hw hc hvs=>exact⟨_,by simp[execOp,hv],.fp vs hB hw hc hvs⟩
 case gl=>exact⟨_,by simp[execOp,hv],.gl⟩
 case sl b o len cap B d hj hl=>exact⟨_,by simp[execOp,hv],.sl hj hl⟩
 case sg b o len sz B d cap C e f hj hl hb hf hC=>exact⟨_,by simp[execOp,hv],.sg hj hl hb hf hC⟩
 case map b B hj=>exact⟨_,by simp[execOp,hv],.map hj⟩
 case iface t x v hx=>exact⟨_,by simp[execOp,hv],.iface hx⟩
theorem istep0_ok{H:IHeap}{ρ:Operand->IV}{o:Oper}{s:Step}(h:istep0 T H ρ o=some s){j:J}{w:World}(hs:Sim j H w){ρ':Operand->Value}(hρ:∀ y∈o.op.operands,VR j w (ρ y) (ρ' y)):
 StepOk H j w ((execOp ρ' o).run P w) s:=by
 obtain⟨dst,op,type,pos,after,guard⟩:=o
 cases op<;>simp only[istep0,armOf]at h<;>simp only[Op.operands]at hρ<;>(try (cases h;done))
 case move x=>injection h with h;subst h;exact⟨_,rfl,hρ _ (by simp)⟩
 case assign x=>injection h with h;subst h;exact⟨_,rfl,hρ _ (by simp)⟩
 case pick c a b=>
  split at h
  ·rename_i t hc
   injection h with h;subst h
   have hcv:=hρ c (by simp)
   rw[hc]at hcv
   cases hcv':ρ' c<;>rw[hcv']at hcv<;>cases hcv
   refine⟨if t then ρ' a else ρ' b,by simp[execOp,hcv',asBool],?_⟩
   cases t
   ·exact hρ b (by simp)
   ·exact hρ a (by simp)
  ·cases h
 case alloc t=>exact new_of h (fun o f he=>ialloc_ok T he j w)
 case box t x=>exact new_of h (fun o f he=>ibox_ok he (hρ x (by simp)) t)
 case build t parts=>
  obtain⟨r,hr,rfl⟩:=map_of h
  exact val_of (ibuild_ok T hr (parts_ok (fun y hy=>hρ y (by simpa using hy))))
 case buildSlice t len parts=>exact new_of h (fun o f he=>ibuildSlice_ok T he (parts_ok (fun y hy=>hρ y (by simpa using hy))))
 case load t a=>
  obtain⟨r,hr,rfl⟩:=map_of h
  exact val_of (iload_ok T hr hs (hρ a (by simp)))
 case store t a x=>
  unfold Step.ofHeap at h
  split at h
  ·rename_i H' hst
   injection h with h;subst h
   obtain⟨w',r1,r2,r3⟩:=istore_ok T hst hs (hρ a (by simp)) (hρ x (by simp))
   exact⟨w',undef,j,.inr ⟨by simp[execOp,r1],rfl⟩,r2,r3,.junk _,Stay.refl _ _⟩
  ·cases h
 case nilCheck x=>
  obtain⟨r,hr,rfl⟩:=map_of h
  exact inilCheck_ok hr (hρ x (by simp)) rfl
 case binOp op t x y yt=>
  split at h
  ·rename_i r hr
   injection h with h;subst h
   exact val_of (ibin_ok T hr (hρ x (by simp)) (hρ y (by simp)))
  ·split at h
   ·obtain⟨r,hr,rfl⟩:=map_of h
    exact val_of ⟨_,iptrEq_ok T hr (.inl rfl) hs (hρ x (by simp)) (hρ y (by simp)),.sc rfl⟩
   ·obtain⟨r,hr,rfl⟩:=map_of h
    exact val_of ⟨_,iptrEq_ok T hr (.inr rfl) hs (hρ x (by simp)) (hρ y (by simp)),.sc rfl⟩
   ·cases h
 case unOp op t x=>
  obtain⟨r,hr,rfl⟩:=map_of h
  exact val_of (iun_ok hr (hρ x (by simp)))
 case convert s d x=>
  split at h
  ·rename_i r hr
   injection h with h;subst h
   exact val_of (iconv_ok T hr (hρ x (by simp)))
  ·split at h
   ·rename_i r hr
    injection h with h;subst h
    exact val_of (istr_ok T hr hs (hρ x (by simp)))
   ·unfold Step.ofUpd at h
    split at h
    ·rename_i H' r hst
     injection h with h;subst h
     obtain⟨w',v,j',r1,r2,r3,r4,r5⟩:=ibytes_ok T hst hs (hρ x (by simp))
     exact⟨w',v,j',.inl (by simp[execOp,r1]),r2,r3,r4,r5⟩
    ·cases h
 case makeInterface t x=>
  obtain⟨r,hr,rfl⟩:=map_of h
  exact val_of (imakeIface_ok T hr (hρ x (by simp)))
 case makeFunc fn first cap=>
  injection h with h;subst h
  have h1:=list_ok (j:=j) (w:=w) (ρ:=ρ) (ρ':=ρ') (xs:=first) (fun y hy=>hρ y (by simp at hy ⊢;exact .inl hy))
  have h2:=list_ok (j:=j) (w:=w) (ρ:=ρ) (ρ':=ρ') (xs:=cap) (fun y hy=>hρ y (by simp at hy ⊢;exact .inr hy))
  exact⟨_,rfl,.fn h1.1 h2.1 h1.2 h2.2⟩
 case makeMap t r=>
  split at h
  ·rename_i k e ht
   exact new_of h (fun o f he=>imakeMap_ok T he ht (opt_ok (fun y hy=>hρ y hy)))
  ·cases h
 case makeSlice t l c=>exact new_of h (fun o f he=>imakeSlice_ok T he (hρ l (by simp)) (hρ c (by simp)))
 case slice t x lo hi mx=>
  obtain⟨r,hr,rfl⟩:=map_of h
  split at hr
  ·rename_i g o hg
   have hx:=hρ x (by simp)
   rw[hg]at hx
   exact val_of (isliceG_ok T hr hs hx (opt_ok (fun y hy=>hρ y (by simp at hy ⊢;simp[hy]))) (opt_ok (fun y hy=>hρ y (by simp at hy ⊢;simp[hy]))) (opt_ok (fun y hy=>hρ y (by simp at hy ⊢;simp[hy]))))
  exact val_of (islice_ok T hr (hρ x (by simp)) (opt_ok (fun y hy=>hρ y (by simp at hy ⊢;simp[hy]))) (opt_ok (fun y hy=>hρ y (by simp at hy ⊢;simp[hy]))) (opt_ok (fun y hy=>hρ y (by simp at hy ⊢;simp[hy]))))
 case fieldAddr t x f=>
  obtain⟨r,hr,rfl⟩:=map_of h
  exact val_of (ifieldAddr_ok T hr (hρ x (by simp)))
 case field t x f=>
  obtain⟨r,hr,rfl⟩:=map_of h
  exact val_of (ifield_ok T hr (hρ x (by simp)))
 case indexAddr t x i=>
  obtain⟨r,hr,rfl⟩:=map_of h
  exact val_of (iindexAddr_ok T hr (hρ x (by simp)) (hρ i (by simp)))
 case index t x i=>
  obtain⟨r,hr,rfl⟩:=map_of h
  exact val_of (iindex_ok T hr (hρ x (by simp)) (hρ i (by simp)))
 case lookup t x i ok=>
  obtain⟨r,hr,rfl⟩:=map_of h
  exact val_of (ilookup_ok T hr hs (hρ x (by simp)) (hρ i (by simp)))
 case mapUpdate t m k x=>
  unfold Step.ofHeap at h
  split at h
  ·rename_i H' hst
   injection h with h;subst h
   obtain⟨w',r1,r2,r3⟩:=imapUpdate_ok T hst hs (hρ m (by simp)) (hρ k (by simp)) (hρ x (by simp))
   exact⟨w',undef,j,.inr ⟨by simp[execOp,r1],rfl⟩,r2,r3,.junk _,Stay.refl _ _⟩
  ·cases h
 case insert t m k x=>
  unfold Step.ofHeap at h
  split at h
  ·rename_i H' hst
   injection h with h;subst h
   obtain⟨w',r1,r2,r3⟩:=imapUpdate_ok T hst hs (hρ m (by simp)) (hρ k (by simp)) (hρ x (by simp))
   exact⟨w',undef,j,.inr ⟨by simp[execOp,r1],rfl⟩,r2,r3,.junk _,Stay.refl _ _⟩
  ·cases h
 case range t x=>exact new_of h (fun o f he=>irange_ok T he hs (hρ x (by simp)))
 case next it isS=>
  unfold Step.ofUpd at h
  split at h
  ·rename_i H' x hst
   injection h with h;subst h
   obtain⟨w',u,r1,r2,r3,r4⟩:=inext_ok (P:=P) hst hs (hρ it (by simp)) type
   exact⟨w',u,j,.inl (by simp[execOp,r1]),r2,r3,r4,Stay.refl _ _⟩
  ·cases h
 case entry it=>
  obtain⟨r,hr,rfl⟩:=map_of h
  exact val_of (ientry_ok hr hs (hρ it (by simp)))
 case typeAssert x xt asserted ok=>
  obtain⟨r,hr,rfl⟩:=map_of h
  exact val_of (itypeAssert_ok T hr (hρ x (by simp)))
 case extract x i=>
  obtain⟨r,hr,rfl⟩:=map_of h
  exact val_of (iextract_ok hr (hρ x (by simp)))
 case call c=>
  obtain⟨callee,args,argTypes⟩:=c
  cases callee<;>simp only[]at h<;>(try (cases h;done))
  case value f=>
   split at h
   ·rename_i g x y hf hxy
    split at h
    ·rename_i hov
     obtain⟨r,hr,rfl⟩:=map_of h
     have ea:args= #[x,y]:=by rw[<-Array.toList_inj];simpa using hxy
     subst ea
     have hfv:=hρ f (by simp[Call.operands])
     rw[hf]at hfv
     cases hfe:ρ' f<;>rw[hfe]at hfv<;>cases hfv
     rename_i first' cap' v1 v2 v3 v4
     have e1:first'= #[]:=Array.eq_empty_of_size_eq_zero v1
     have e2:cap'= #[]:=Array.eq_empty_of_size_eq_zero v3
     subst e1;subst e2
     obtain⟨h1,rfl⟩:=iov_ok T hr hov hs (hρ x (by simp[Call.operands])) (hρ y (by simp[Call.operands]))
     refine⟨.bool false,?_,.sc rfl⟩
     unfold execOp
     simp only[Sem.run_bind,resolve,hfe,Deferred.ofValue,Result.andThen_ok,invoke,Sem.run_pure]
     simpa using h1
    ·split at h
     ·obtain⟨r,hr,rfl⟩:=map_of h
      have hfv:=hρ f (by simp[Call.operands])
      rw[hf]at hfv
      cases hfe:ρ' f<;>rw[hfe]at hfv<;>cases hfv
      rename_i first' cap' v1 v2 v3 v4
      have e1:first'= #[]:=Array.eq_empty_of_size_eq_zero v1
      have e2:cap'= #[]:=Array.eq_empty_of_size_eq_zero v3
      subst e1;subst e2
      have hl:=list_ok (j:=j) (w:=w) (ρ:=ρ) (ρ':=ρ') (xs:=args) (fun y hy=>hρ y (by simp[Call.operands];exact .inr (by simpa using hy)))
      rw[hxy]at hl
      obtain⟨u,h1,h2⟩:=T.hexl _ _ _ _ hr j w _ hl
      refine⟨u,?_,h2⟩
      unfold execOp
      simp only[Sem.run_bind,resolve,hfe,Deferred.ofValue,Result.andThen_ok,invoke,Sem.run_pure]
      simpa using h1
     ·cases h
   ·rename_i g xs hf hxy
    split at h
    ·obtain⟨r,hr,rfl⟩:=map_of h
     have hfv:=hρ f (by simp[Call.operands])
     rw[hf]at hfv
     cases hfe:ρ' f<;>rw[hfe]at hfv<;>cases hfv
     rename_i first' cap' v1 v2 v3 v4
     have e1:first'= #[]:=Array.eq_empty_of_size_eq_zero v1
     have e2:cap'= #[]:=Array.eq_empty_of_size_eq_zero v3
     subst e1;subst e2
     have hl:=list_ok (j:=j) (w:=w) (ρ:=ρ) (ρ':=ρ') (xs:=args) (fun y hy=>hρ y (by simp[Call.operands];exact .inr (by simpa using hy)))
     obtain⟨u,h1,h2⟩:=T.hexl _ _ _ _ hr j w _ hl
     refine⟨u,?_,h2⟩
     unfold execOp
     simp only[Sem.run_bind,resolve,hfe,Deferred.ofValue,Result.andThen_ok,invoke,Sem.run_pure]
     simpa using h1
    ·cases h
   ·cases h
  case invoke r name=>
   split at h
   ·rename_i t x hf hxy
    split at h
    ·rename_i g hm
     split at h
     ·obtain⟨y,hr,rfl⟩:=map_of h
      have ea:args= #[]:=by rw[<-Array.toList_inj];simpa using hxy
      subst ea
      have hrv:=hρ r (by simp[Call.operands])
      rw[hf]at hrv
      cases hre:ρ' r<;>rw[hre]at hrv<;>cases hrv
      rename_i v hv
      obtain⟨u,h1,h2⟩:=T.hexl _ _ _ _ hr j w #[v] (VRs.single hv)
      refine⟨u,?_,h2⟩
      unfold execOp
      simp only[Sem.run_bind,resolve,hre,Sem.run_pure,Result.andThen_ok,invoke]
      simpa[callMethod,T.hmeth _ _ _ hm v w]using h1
     ·cases h
    ·cases h
   ·cases h
  rename_i b
  have hargs:∀ y∈args.toList,VR j w (ρ y) (ρ' y):=fun y hy=>hρ y (by simp[Call.operands];simpa using hy)
  have hform:∀ (m:Sem Value) (w':World) (v:Value),(∀consts,builtin b argTypes type consts (args.map ρ')=(do pure (Next.value (<-m))))->m.run P w=.ok v w'->
   (execOp ρ' {dst,op:=.call {callee:=.builtin b,args,argTypes},type,pos,after,guard}).run P w=.ok (.value v) w':=by
   intro m w' v hb hm
   simp only[execOp,resolve,Sem.run_bind,Sem.run_pure,Result.andThen_ok,invoke,hb,hm]
  split at h
  ·rename_i x t ts ha ht
   obtain⟨n,hn,rfl⟩:=map_of h
   have ea:args= #[x]:=by rw[<-Array.toList_inj];simpa using ha
   subst ea
   have:=ilen_ok T hn hs (hargs x (by simp)) argTypes (by rw[<-Array.getElem?_toList,ht];rfl) type
   exact⟨goInt n,hform (Builtin.len_ argTypes type #[ρ' x]) w _ (fun _=>by simp[builtin]) this,.sc rfl⟩
  ·rename_i x t ts ha ht
   obtain⟨n,hn,rfl⟩:=map_of h
   have ea:args= #[x]:=by rw[<-Array.toList_inj];simpa using ha
   subst ea
   have:=icap_ok T hn (hargs x (by simp)) argTypes (by rw[<-Array.getElem?_toList,ht];rfl) type
   exact⟨goInt n,hform (Builtin.cap_ argTypes type #[ρ' x]) w _ (fun _=>by simp[builtin]) this,.sc rfl⟩
  ·rename_i s0 x st xt ha ht
   have ea:args= #[s0,x]:=by rw[<-Array.toList_inj];simpa using ha
   have et:argTypes= #[st,xt]:=by rw[<-Array.toList_inj];simpa using ht
   subst ea;subst et
   unfold Step.ofUpd at h
   split at h
   ·rename_i H' r hst
    injection h with h;subst h
    obtain⟨w',v,j',r1,r2,r3,r4,r5⟩:=iappend_ok T hst hs (hargs s0 (by simp)) (hargs x (by simp))
    exact⟨w',v,j',.inl (hform (Builtin.append_ #[st,xt] type #[ρ' s0,ρ' x]) w' v (fun _=>by simp[builtin]) r1),r2,r3,r4,r5⟩
   ·cases h
  ·rename_i d x dt st ha ht
   have ea:args= #[d,x]:=by rw[<-Array.toList_inj];simpa using ha
   have et:argTypes= #[dt,st]:=by rw[<-Array.toList_inj];simpa using ht
   subst ea;subst et
   unfold Step.ofUpd at h
   split at h
   ·rename_i H' r hst
    injection h with h;subst h
    obtain⟨w',v,r1,r2,r3,r4⟩:=icopy_ok T (st:=st) (ty:=type) hst hs (hargs d (by simp)) (hargs x (by simp))
    exact⟨w',v,j,.inl (hform (Builtin.copy_ #[dt,st] type #[ρ' d,ρ' x]) w' v (fun _=>by simp[builtin]) r1),r2,r3,r4,Stay.refl _ _⟩
   ·cases h
  ·rename_i x t ha ht
   have ea:args= #[x]:=by rw[<-Array.toList_inj];simpa using ha
   have et:argTypes= #[t]:=by rw[<-Array.toList_inj];simpa using ht
   subst ea;subst et
   split at h
   ·rename_i H' hst
    injection h with h;subst h
    obtain⟨w',r1,r2,r3⟩:=iclear_ok T (ty:=type) hst hs (hargs x (by simp))
    exact⟨w',_,j,.inl (hform (Builtin.clear_ #[t] type #[ρ' x]) w' _ (fun _=>by simp[builtin]) r1),r2,r3,.tup (cs:=[]) (by simp) (fun k hk=>by simp at hk),Stay.refl _ _⟩
   ·cases h
  ·rename_i m k t t2 ha ht
   have ea:args= #[m,k]:=by rw[<-Array.toList_inj];simpa using ha
   have et:argTypes= #[t,t2]:=by rw[<-Array.toList_inj];simpa using ht
   subst ea;subst et
   split at h
   ·rename_i H' hst
    injection h with h;subst h
    obtain⟨w',r1,r2,r3⟩:=idelete_ok T (t2:=t2) hst hs (hargs m (by simp)) (hargs k (by simp))
    exact⟨w',_,j,.inl (hform (Builtin.delete_ #[t,t2] type #[ρ' m,ρ' k]) w' _ (fun _=>by simp[builtin]) r1),r2,r3,.tup (cs:=[]) (by simp) (fun k hk=>by simp at hk),Stay.refl _ _⟩
   ·cases h
  ·rename_i x y ha
   have ea:args= #[x,y]:=by rw[<-Array.toList_inj];simpa using ha
   subst ea
   split at h
   ·rename_i k a k' b' h1 h2
    injection h with h;subst h
    have v1:=hargs x (by simp);rw[h1]at v1
    have v2:=hargs y (by simp);rw[h2]at v2
    cases e1:ρ' x<;>rw[e1]at v1<;>cases v1
    cases e2:ρ' y<;>rw[e2]at v2<;>cases v2
    exact⟨_,hform (Builtin.min_ argTypes type #[ρ' x,ρ' y]) w _ (fun _=>by simp[builtin]) (by simp[Builtin.min_,Builtin.min2,e1,e2]),.sc rfl⟩
   ·cases h
  ·rename_i x y ha
   have ea:args= #[x,y]:=by rw[<-Array.toList_inj];simpa using ha
   subst ea
   split at h
   ·rename_i k a k' b' h1 h2
    injection h with h;subst h
    have v1:=hargs x (by simp);rw[h1]at v1
    have v2:=hargs y (by simp);rw[h2]at v2
    cases e1:ρ' x<;>rw[e1]at v1<;>cases v1
    cases e2:ρ' y<;>rw[e2]at v2<;>cases v2
    exact⟨_,hform (Builtin.max_ argTypes type #[ρ' x,ρ' y]) w _ (fun _=>by simp[builtin]) (by simp[Builtin.max_,Builtin.max2,e1,e2]),.sc rfl⟩
   ·cases h
  ·cases h
theorem ifact0_ok{H:IHeap}{ρ:Operand->IV}{o:Oper}{s:Step}(h:ifact0 T H ρ o=some s){j:J}{w:World}(hs:Sim j H w){ρ':Operand->Value}(hρ:∀ y∈o.op.operands,VR j w (ρ y) (ρ' y)):
 StepOk H j w ((execOp ρ' o).run P w) s:=by
 obtain⟨dst,op,type,pos,after,guard⟩:=o
 unfold ifact0 at h
 simp only at h
 split at h
 ·rename_i bop t x y yt
  obtain⟨r,hr,rfl⟩:=map_of h
  exact val_of (T.hfbin _ _ _ _ _ hr _ _ _ _ (hρ x (by simp[Op.operands])) (hρ y (by simp[Op.operands])) x y)
 ·rename_i s0 d x
  obtain⟨r,hr,rfl⟩:=map_of h
  exact val_of (T.hfconv _ _ _ _ hr _ _ _ (hρ x (by simp[Op.operands])))
 ·rename_i t x i
  obtain⟨r,hr,rfl⟩:=map_of h
  exact val_of (T.hfrow _ _ _ _ hr _ _ _ _ (hρ x (by simp[Op.operands])) (hρ i (by simp[Op.operands])))
 ·rename_i t x i
  obtain⟨r,hr,rfl⟩:=map_of h
  exact val_of (T.hfindx _ _ _ _ hr _ _ _ _ (hρ x (by simp[Op.operands])) (hρ i (by simp[Op.operands])))
 ·rename_i args argTypes
  split at h
  ·rename_i x t ts ha ht
   obtain⟨r,hr,rfl⟩:=map_of h
   have ea:args= #[x]:=by rw[<-Array.toList_inj];simpa using ha
   subst ea
   obtain⟨v,hv,hz⟩:=T.hflen _ _ _ hr j w (ρ' x) (hρ x (by simp[Op.operands,Call.operands])) argTypes (by rw[<-Array.getElem?_toList,ht];rfl) type
   exact⟨v,by simp[execOp,resolve,invoke,builtin,hv],hz⟩
  ·cases h
 ·rename_i t m k ok
  split at h
  ·rename_i b hm
   split at h
   ·rename_i q hq
    obtain⟨r,hr,rfl⟩:=map_of h
    have hv:=hρ m (by simp[Op.operands])
    rw[hm]at hv
    cases hfe:ρ' m<;>rw[hfe]at hv<;>cases hv
    rename_i B hj
    obtain⟨v,h1,h2⟩:=T.hflook _ _ _ _ _ hr j w B (ρ' k) (hs.live _ _ _ _ hq hj) (hρ k (by simp[Op.operands]))
    refine val_of ⟨v,?_,h2⟩
    rw[hfe];exact h1
   ·cases h
  ·cases h
 ·rename_i t m k x
  have key:∀ {y:Option IHeap} {s:Step},Step.ofHeap y=some s->∃ H',y=some H'∧s=.upd H' .junk:=by
   intro y s hy
   unfold Step.ofHeap at hy
   split at hy
   ·injection hy with hy;exact⟨_,rfl,hy.symm⟩
   ·cases hy
  obtain⟨H',hH,rfl⟩:=key h
  split at hH
  ·rename_i b hm
   split at hH
   ·rename_i q hq
    obtain⟨q',hq',rfl⟩:=Option.map_eq_some_iff.1 hH
    have hv:=hρ m (by simp[Op.operands])
    rw[hm]at hv
    cases hfe:ρ' m<;>rw[hfe]at hv<;>cases hv
    rename_i B hj
    have hO:=hs.live _ _ _ _ hq hj
    obtain⟨es,c,r1,r2⟩:=T.hfupd _ _ _ _ _ hq' j w B (ρ' k) (ρ' x) hO (hρ k (by simp[Op.operands])) (hρ x (by simp[Op.operands]))
    obtain⟨_,es0,h1,_⟩:=hO
    obtain⟨s1,s2,s3,s4,s5⟩:=setObj_facts (P:=P) (o':=.map es c) h1 (fun _ _ _ h=>by cases h) hj
    refine⟨_,undef,j,.inr ⟨?_,rfl⟩,Sim.setAny hs hq hj s2 s3 s4 (r2 _ s5),s2,.junk _,Stay.refl _ _⟩
    simp only[execOp,hfe,run_u,r1];rfl
   ·cases hH
  ·cases hH
 ·rename_i t m k x
  have key:∀ {y:Option IHeap} {s:Step},Step.ofHeap y=some s->∃ H',y=some H'∧s=.upd H' .junk:=by
   intro y s hy
   unfold Step.ofHeap at hy
   split at hy
   ·injection hy with hy;exact⟨_,rfl,hy.symm⟩
   ·cases hy
  obtain⟨H',hH,rfl⟩:=key h
  split at hH
  ·rename_i b hm
   split at hH
   ·rename_i q hq
    obtain⟨q',hq',rfl⟩:=Option.map_eq_some_iff.1 hH
    have hv:=hρ m (by simp[Op.operands])
    rw[hm]at hv
    cases hfe:ρ' m<;>rw[hfe]at hv<;>cases hv
    rename_i B hj
    have hO:=hs.live _ _ _ _ hq hj
    obtain⟨es,c,r1,r2⟩:=T.hfupd _ _ _ _ _ hq' j w B (ρ' k) (ρ' x) hO (hρ k (by simp[Op.operands])) (hρ x (by simp[Op.operands]))
    obtain⟨_,es0,h1,_⟩:=hO
    obtain⟨s1,s2,s3,s4,s5⟩:=setObj_facts (P:=P) (o':=.map es c) h1 (fun _ _ _ h=>by cases h) hj
    refine⟨_,undef,j,.inr ⟨?_,rfl⟩,Sim.setAny hs hq hj s2 s3 s4 (r2 _ s5),s2,.junk _,Stay.refl _ _⟩
    simp only[execOp,hfe,run_u,r1];rfl
   ·cases hH
  ·cases hH
 ·cases h
theorem vr_bas{x:IV}{n:Nat}(h:bas x=.sc (.int .i64 n)){j:J}{w:World}:VR j w x (.int .i64 n):=by
 cases x<;>simp only[bas]at h<;>(try (cases h;done))
 ·rw[h];exact .sc rfl
 ·injection h with h;rw[<-h];exact .un
theorem ilist_ok{H:IHeap}{ρ:Operand->IV}{o:Oper}{s:Step}(h:ilist T H ρ o=some s){j:J}{w:World}(hs:Sim j H w){ρ':Operand->Value}(hρ:∀ y∈o.op.operands,VR j w (ρ y) (ρ' y)):
 StepOk H j w ((execOp ρ' o).run P w) s:=by
 obtain⟨dst,op,type,pos,after,guard⟩:=o
 unfold ilist at h
 simp only at h
 split at h
 ·rename_i t a
  obtain⟨r,hr,rfl⟩:=map_of h
  exact val_of (lload_ok T hr hs (hρ a (by simp[Op.operands])))
 ·rename_i t a x
  unfold Step.ofHeap at h
  split at h
  ·rename_i H' hst
   injection h with h;subst h
   obtain⟨w',r1,r2,r3⟩:=lstore_ok T hst hs (hρ a (by simp[Op.operands])) (hρ x (by simp[Op.operands]))
   exact⟨w',undef,j,.inr ⟨by simp[execOp,r1],rfl⟩,r2,r3,.junk _,Stay.refl _ _⟩
  ·cases h
 ·rename_i t x i
  obtain⟨r,hr,rfl⟩:=map_of h
  exact val_of (lindex_ok T hr (hρ x (by simp[Op.operands])) (hρ i (by simp[Op.operands])))
 ·rename_i t x lo hi mx
  obtain⟨r,hr,rfl⟩:=map_of h
  exact val_of (lslice_ok T hr (hρ x (by simp[Op.operands])) (opt_ok (fun y hy=>hρ y (by simp[Op.operands]at hy ⊢;simp[hy]))) (opt_ok (fun y hy=>hρ y (by simp[Op.operands]at hy ⊢;simp[hy]))) (opt_ok (fun y hy=>hρ y (by simp[Op.operands]at hy ⊢;simp[hy]))))
 ·rename_i t l c
  exact new_of h (fun o f he=>lmake_ok T he (hρ l (by simp[Op.operands])) (hρ c (by simp[Op.operands])))
 ·rename_i s0 d x
  unfold Step.ofUpd at h
  split at h
  ·rename_i H' r hst
   injection h with h;subst h
   obtain⟨w',v,j',r1,r2,r3,r4,r5⟩:=lbytes_ok T hst hs (hρ x (by simp[Op.operands]))
   exact⟨w',v,j',.inl (by simp[execOp,r1]),r2,r3,r4,r5⟩
  ·cases h
 ·rename_i b args argTypes
  have hargs:∀ y∈args.toList,VR j w (ρ y) (ρ' y):=fun y hy=>hρ y (by simp[Op.operands,Call.operands];simpa using hy)
  have hform:∀ (m:Sem Value) (w':World) (v:Value),(∀consts,builtin b argTypes type consts (args.map ρ')=(do pure (Next.value (<-m))))->m.run P w=.ok v w'->
   (execOp ρ' {dst,op:=.call {callee:=.builtin b,args,argTypes},type,pos,after,guard}).run P w=.ok (.value v) w':=by
   intro m w' v hb hm
   simp only[execOp,resolve,Sem.run_bind,Sem.run_pure,Result.andThen_ok,invoke,hb,hm]
  split at h
  ·rename_i x t ts ha ht
   split at h
   ·rename_i elem hu
    obtain⟨r,hr,rfl⟩:=map_of h
    have ea:args= #[x]:=by rw[<-Array.toList_inj];simpa using ha
    subst ea
    have hx:=hargs x (by simp)
    obtain⟨ad,n,c,g1,g2⟩:=llen_ok hr hx (fun n hn=>vr_bas hn)
    have h0:argTypes[0]? =some t:=by rw[<-Array.getElem?_toList,ht];rfl
    refine⟨goInt n,hform (Builtin.len_ argTypes type #[ρ' x]) w _ (fun _=>by simp[builtin]) ?_,vr_bas g2⟩
    rw[g1]
    simp[Builtin.len_,h0,r_und T hu]
   ·cases h
  ·rename_i s0 x st xt ha ht
   have ea:args= #[s0,x]:=by rw[<-Array.toList_inj];simpa using ha
   have et:argTypes= #[st,xt]:=by rw[<-Array.toList_inj];simpa using ht
   subst ea;subst et
   unfold Step.ofUpd at h
   split at h
   ·rename_i H' r hst
    injection h with h;subst h
    have key:∃ w' v j',(Builtin.append_ #[st,xt] st #[ρ' s0,ρ' x]).run P w=.ok v w'∧Sim j' H' w'∧Ext j w j' w'∧VR j' w' r v∧Stay H.next j j':=by
     split at hst
     ·rename_i r' hr'
      injection hst with hst;subst hst
      exact lappend_ok T hr' hs (hargs s0 (by simp)) (hargs x (by simp))
     ·exact lclone_ok T hst hs (hargs s0 (by simp)) (hargs x (by simp))
    obtain⟨w',v,j',r1,r2,r3,r4,r5⟩:=key
    exact⟨w',v,j',.inl (hform (Builtin.append_ #[st,xt] type #[ρ' s0,ρ' x]) w' v (fun _=>by simp[builtin]) r1),r2,r3,r4,r5⟩
   ·cases h
  ·cases h
 ·cases h
theorem ifact_ok{H:IHeap}{ρ:Operand->IV}{o:Oper}{s:Step}(h:ifact T H ρ o=some s){j:J}{w:World}(hs:Sim j H w){ρ':Operand->Value}(hρ:∀ y∈o.op.operands,VR j w (ρ y) (ρ' y)):
 StepOk H j w ((execOp ρ' o).run P w) s:=by
 unfold ifact at h
 split at h
 ·rename_i st hf
  injection h with h;subst h
  exact ifact0_ok T hf hs hρ
 ·exact ilist_ok T h hs hρ
theorem istep_ok{H:IHeap}{ρ:Operand->IV}{o:Oper}{s:Step}(h:istep T H ρ o=some s){j:J}{w:World}(hs:Sim j H w){ρ':Operand->Value}(hρ:∀ y∈o.op.operands,VR j w (ρ y) (ρ' y)):
 StepOk H j w ((execOp ρ' o).run P w) s:=by
 unfold istep at h
 split at h
 ·rename_i st hf
  injection h with h;subst h
  exact ifact_ok T hf hs hρ
 ·exact istep0_ok T h hs hρ
end
end Go.Eng
namespace Go.Eng
open Go
def Valid(md:Region.Mode)(ops:Array Oper):Nat->Array Bool->List Nat->Prop
 |0,listed,l=>l=[]∧Region.ready md ops listed=[]
 |_+1,listed,[]=>Region.ready md ops listed=[]
 |fuel+1,listed,i::l=>i∈Region.ready md ops listed∧Valid md ops fuel (listed.setIfInBounds i true) l
theorem linearise_of_valid(md:Region.Mode)(ops:Array Oper):∀ (fuel:Nat)(listed:Array Bool)(l:List Nat),Valid md ops fuel listed l->∃ t,Region.linearise.go md ops fuel t listed []=l:=by
 intro fuel
 induction fuel with
 |zero=>intro listed l h;exact⟨0,by simp only[Valid]at h;rw[h.1];simp[Region.linearise.go]⟩
 |succ fuel ih=>
  intro listed l h
  cases l with
  |nil=>
   refine⟨0,?_⟩
   have h:Region.ready md ops listed=[]:=h
   simp only[Region.linearise.go]
   change (match(Region.ready md ops listed)[0 % (Region.ready md ops listed).length]? with
    |some i=>Region.linearise.go md ops fuel (0 / (Region.ready md ops listed).length) (listed.setIfInBounds i true) [i]
    |none=>[].reverse)=[]
   rw[h];rfl
  |cons i l=>
   obtain⟨hi,hl⟩:=h
   obtain⟨t',ht⟩:=ih _ _ hl
   obtain⟨q,hq,hqi⟩:=List.getElem_of_mem hi
   refine⟨q+(Region.ready md ops listed).length *t',?_⟩
   simp only[Region.linearise.go]
   change (match(Region.ready md ops listed)[(q+(Region.ready md ops listed).length *t') % (Region.ready md ops listed).length]? with
    |some i=>Region.linearise.go md ops fuel ((q+(Region.ready md ops listed).length *t') / (Region.ready md ops listed).length) (listed.setIfInBounds i true) [i]
    |none=>[].reverse)=i::l
   have h1:(q+(Region.ready md ops listed).length *t') % (Region.ready md ops listed).length=q:=by
    rw[Nat.add_mul_mod_self_left];exact Nat.mod_eq_of_lt hq
   have h2:(q+(Region.ready md ops listed).length *t') / (Region.ready md ops listed).length=t':=by
    rw[Nat.add_mul_div_left _ _ (by omega),Nat.div_eq_of_lt hq,Nat.zero_add]
   rw[h1,h2,List.getElem?_eq_getElem hq,hqi]
   simp only[]
   rw[linearise_go_acc,ht]
   rfl
def unl(ops:Array Oper)(listed:Array Bool):Nat:=((List.range ops.size).filter fun i=> !listed.getD i true).length
theorem unl_set{ops:Array Oper}{listed:Array Bool}{i:Nat}(hi:i<ops.size)(hl:listed.getD i true=false):unl ops (listed.setIfInBounds i true)<unl ops listed:=by
 unfold unl
 have hlt:i<listed.size:=by
  apply Classical.byContradiction
  intro h
  simp[h]at hl
 have hset:∀ q,(listed.setIfInBounds i true).getD q true=if q=i then true else listed.getD q true:=by
  intro q
  by_cases hq:q=i
  ·subst hq;simp[hlt]
  ·rw[if_neg hq];exact getD_set_ne true (Ne.symm hq)
 have key:∀ l:List Nat,(l.filter fun q=> !(listed.setIfInBounds i true).getD q true).length<=(l.filter fun q=> !listed.getD q true).length∧
  (i∈l->(l.filter fun q=> !(listed.setIfInBounds i true).getD q true).length<(l.filter fun q=> !listed.getD q true).length):=by
  intro l
  induction l with
  |nil=>exact⟨Nat.le_refl _,fun h=>by cases h⟩
  |cons q l ih=>
   simp only[List.filter_cons,hset]
   by_cases hq:q=i
   ·subst hq
    rw[if_pos rfl,hl]
    simp only[Bool.not_true,Bool.false_eq_true,if_false,Bool.not_false,if_true,List.length_cons]
    have:=ih.1
    simp only[hset]at this
    exact⟨by omega,fun _=>by omega⟩
   ·rw[if_neg hq]
    have h1:=ih.1
    have h2:=ih.2
    simp only[hset]at h1 h2
    split
    ·simp only[List.length_cons]
     exact⟨by omega,fun h=>by
      rcases List.mem_cons.1 h with h |h
      ·exact absurd h.symm hq
      ·have:=h2 h;omega⟩
    ·exact⟨h1,fun h=>by
      rcases List.mem_cons.1 h with h |h
      ·exact absurd h.symm hq
      ·exact h2 h⟩
 exact(key _).2 (List.mem_range.2 hi)
theorem valid_of_linearise(md:Region.Mode)(ops:Array Oper):∀ (fuel t:Nat)(listed:Array Bool),unl ops listed<=fuel->Valid md ops fuel listed (Region.linearise.go md ops fuel t listed []):=by
 intro fuel
 induction fuel with
 |zero=>
  intro t listed hu
  refine⟨by simp[Region.linearise.go],List.eq_nil_iff_forall_not_mem.2 fun i hi=> ?_⟩
  obtain⟨h0,o,ho,_⟩:=mem_ready.1 hi
  have:=unl_set (Array.getElem?_eq_some_iff.1 ho).1 h0
  omega
 |succ fuel ih=>
  intro t listed hu
  simp only[Region.linearise.go]
  change Valid md ops (fuel+1) listed (match(Region.ready md ops listed)[t % (Region.ready md ops listed).length]? with
   |some i=>Region.linearise.go md ops fuel (t / (Region.ready md ops listed).length) (listed.setIfInBounds i true) [i]
   |none=>[].reverse)
  cases hi:(Region.ready md ops listed)[t % (Region.ready md ops listed).length]? with
  |none=>
   show Region.ready md ops listed=[]
   cases hr:Region.ready md ops listed with
   |nil=>rfl
   |cons x xs=>
    rw[hr]at hi
    have hlt:t % (x::xs).length<(x::xs).length:=Nat.mod_lt _ (by simp)
    simp at hi
    simp at hlt
    omega
  |some i=>
   simp only[]
   rw[linearise_go_acc,List.reverse_singleton,List.singleton_append]
   have hm:=List.mem_of_getElem? hi
   obtain⟨h0,o,ho,_⟩:=mem_ready.1 hm
   have:=unl_set (Array.getElem?_eq_some_iff.1 ho).1 h0
   exact⟨hm,ih _ _ (by omega)⟩
theorem unl_le(ops:Array Oper)(listed:Array Bool):unl ops listed<=ops.size:=by
 unfold unl
 have:=List.length_filter_le (fun i=> !listed.getD i true) (List.range ops.size)
 rw[List.length_range]at this
 exact this
theorem valid_linearise(ops:Array Oper)(t:Nat):Valid .any ops ops.size (Array.replicate ops.size false) (Region.linearise.go .any ops ops.size t (Array.replicate ops.size false) []):=
 valid_of_linearise _ _ _ _ _ (unl_le _ _)
theorem Valid.congr{md:Region.Mode}{ops ops':Array Oper}(h:∀ listed,Region.ready md ops' listed=Region.ready md ops listed):∀ (fuel:Nat)(listed:Array Bool)(l:List Nat),Valid md ops fuel listed l->Valid md ops' fuel listed l:=by
 intro fuel
 induction fuel with
 |zero=>intro listed l hv;exact⟨hv.1,(h _).trans hv.2⟩
 |succ fuel ih=>
  intro listed l hv
  cases l with
  |nil=>exact(h _).trans hv
  |cons i l=>exact⟨by rw[h];exact hv.1,ih _ _ hv.2⟩
theorem wpOpsIn_of_any{F:Fence}{n:Nat}{P:Program}{md:Region.Mode}{ops:Array Oper}{Q:Exit->Act->World->Prop}:∀ (fuel:Nat)(listed:Array Bool)(l:List Nat)(a:Act)(w:World),
 wpAnyIn F n P md ops Q fuel listed a w->Valid md ops fuel listed l->wpOpsIn F n P ops Q l a w:=by
 intro fuel
 induction fuel with
 |zero=>intro listed l a w h hv;rw[hv.1];exact h.2
 |succ fuel ih=>
  intro listed l a w h hv
  cases l with
  |nil=>exact h.1 hv
  |cons i l=>
   rw[wpOpsIn_cons]
   exact wpOpIn_mono (fun a w hk=>ih _ _ _ _ hk hv.2) (h.2 i hv.1)
theorem wpIn_after{F:Fence}{n:Nat}{P:Program}{o:Oper}(e:Array Edge){a:Act}{w:World}{K:Act->World->Prop}{Q:Exit->Act->World->Prop}:Oper.wpIn F n P {o with after:=e} a w K Q=Oper.wpIn F n P o a w K Q:=by
 have h1:Oper.semAt F.round a.eval {o with after:=e}=Oper.semAt F.round a.eval o:=by
  cases o;rfl
 have h2:Oper.about P w a.eval {o with after:=e}=Oper.about P w a.eval o:=by cases o;rfl
 unfold Oper.wpIn
 rw[h1,h2]
 generalize (Oper.semAt F.round a.eval o).run P w=r
 cases r with
 |ok x w'=>cases x<;>rfl
 |halt x w'=>cases x<;>rfl
theorem wpOpsIn_after{F:Fence}{n:Nat}{P:Program}{ops ops':Array Oper}{Q:Exit->Act->World->Prop}(h:∀ i:Nat,∃e:Array Edge,ops'[i]? =(ops[i]?).map (fun o:Oper=>{o with after:=e})):
 ∀(l:List Nat) (a:Act) (w:World),wpOpsIn F n P ops' Q l a w↔wpOpsIn F n P ops Q l a w:=by
 have hy:∀ t,yielded ops' t=yielded ops t:=by
  intro t
  funext g
  unfold yielded
  obtain⟨e,he⟩:=h g
  rw[he]
  cases ops[g]? <;>rfl
 intro l
 induction l with
 |nil=>intro a w;exact Iff.rfl
 |cons i l ih=>
  intro a w
  rw[wpOpsIn_cons,wpOpsIn_cons]
  unfold wpOpIn
  obtain⟨e,he⟩:=h i
  rw[he]
  cases ho:ops[i]? with
  |none=>exact ih a w
  |some o=>
   simp only[Option.map_some]
   have hw:Region.wanted {o with after:=e} (yielded ops' a.tmps)=Region.wanted o (yielded ops a.tmps):=by rw[hy];rfl
   rw[hw]
   split
   ·rw[wpIn_after]
    exact⟨Oper.wpIn_mono fun a w=>(ih a w).1,Oper.wpIn_mono fun a w=>(ih a w).2⟩
   ·have h2:Oper.about P w a.eval {o with after:=e}=Oper.about P w a.eval o:=by cases o;rfl
    rw[h2]
    exact⟨fun h=>⟨h.1,(ih _ _).1 h.2⟩,fun h=>⟨h.1,(ih _ _).2 h.2⟩⟩
def addEdge(ops:Array Oper)(y:Nat)(e:Edge):Array Oper:=ops.mapIdx fun i o=>if i=y then{o with after:=o.after.push e}else o
theorem addEdge_get(ops:Array Oper)(y:Nat)(e:Edge)(i:Nat):(addEdge ops y e)[i]? =(ops[i]?).map fun o=>if i=y then{o with after:=o.after.push e}else o:=by
 simp[addEdge]
theorem addEdge_ready{md:Region.Mode}{ops:Array Oper}{y:Nat}{e:Edge}{listed:Array Bool}{i:Nat}:
 (i∈Region.ready md ops listed->(i=y->listed.getD e.on false=true)->i∈Region.ready md (addEdge ops y e) listed)∧
 (i∈Region.ready md (addEdge ops y e) listed->i∈Region.ready md ops listed):=by
 constructor
 ·intro h hl
  obtain⟨h0,o,ho,hall⟩:=mem_ready.1 h
  refine mem_ready.2 ⟨h0,_,by rw[addEdge_get,ho];rfl,fun e' he hb=> ?_⟩
  simp only at he
  by_cases hy:i=y
  ·rw[if_pos hy]at he
   simp only[Array.mem_push]at he
   rcases he with he |rfl
   ·exact hall e' he hb
   ·exact hl hy
  ·rw[if_neg hy]at he;exact hall e' he hb
 ·intro h
  obtain⟨h0,o',ho',hall⟩:=mem_ready.1 h
  rw[addEdge_get]at ho'
  obtain⟨o,ho,rfl⟩:=Option.map_eq_some_iff.1 ho'
  refine mem_ready.2 ⟨h0,o,ho,fun e' he hb=>hall e' ?_ hb⟩
  split
  ·simp only[Array.mem_push];exact .inl he
  ·exact he
def Ahead(x y:Nat):List Nat->Prop
 | []=>True
 |i::l=>i=x∨(i≠y∧Ahead x y l)
theorem valid_edge{md:Region.Mode}{ops:Array Oper}{x y:Nat}{e:Edge}(he:e.on=x)(hxy:x≠y):∀ (fuel:Nat)(listed:Array Bool)(l:List Nat),x<listed.size->Valid md ops fuel listed l->
 (listed.getD x false=true∨Ahead x y l)->Valid md (addEdge ops y e) fuel listed l:=by
 intro fuel
 induction fuel with
 |zero=>
  intro listed l _ h _
  refine⟨h.1,List.eq_nil_iff_forall_not_mem.2 fun i hi=> ?_⟩
  have:=addEdge_ready.2 hi
  rw[h.2]at this;cases this
 |succ fuel ih=>
  intro listed l hx h ha
  cases l with
  |nil=>
   have h:Region.ready md ops listed=[]:=h
   show Region.ready md (addEdge ops y e) listed=[]
   apply List.eq_nil_iff_forall_not_mem.2
   intro i hi
   have:=addEdge_ready.2 hi
   rw[h]at this;cases this
  |cons i l=>
   obtain⟨hi,hl⟩:=h
   refine⟨addEdge_ready.1 hi (fun hy=> ?_),ih _ _ (by simpa using hx) hl ?_⟩
   ·rw[he]
    rcases ha with ha |ha |ha
    ·exact ha
    ·exact absurd (ha.symm.trans hy) hxy
    ·exact absurd hy ha.1
   ·by_cases hix:i=x
    ·subst hix;left;simp[hx]
    ·rcases ha with ha |ha |ha
     ·left;exact getD_set_true ha
     ·exact absurd ha hix
     ·exact .inr ha.2
theorem ahead_or{x y:Nat}:∀ (l:List Nat),Ahead x y l∨Ahead y x l:=by
 intro l
 induction l with
 |nil=>exact .inl trivial
 |cons i l ih=>
  by_cases h1:i=x
  ·exact .inl (.inl h1)
  ·by_cases h2:i=y
   ·exact .inr (.inl h2)
   ·rcases ih with h |h
    ·exact .inl (.inr ⟨h2,h⟩)
    ·exact .inr (.inr ⟨h1,h⟩)
theorem getD_perm{s:Nat->Nat}(hs:∀ i,s (s i)=i){listed listed':Array Bool}(hz:listed'.size=listed.size)(h:∀ i d,listed'.getD (s i) d=listed.getD i d)(i:Nat):
 (listed'.setIfInBounds (s i) true).size=(listed.setIfInBounds i true).size∧∀ q d,(listed'.setIfInBounds (s i) true).getD (s q) d=(listed.setIfInBounds i true).getD q d:=by
 refine⟨by simp[hz],fun q d=> ?_⟩
 by_cases hq:i=q
 ·subst hq
  by_cases hi:i<listed.size
  ·have h1:=h i (!(listed.getD i false))
   have h2:=h i (listed.getD i false)
   have hi':s i<listed'.size:=by
    apply Classical.byContradiction
    intro hn
    have e1:∀ d,listed'.getD (s i) d=d:=fun d=>by simp[hn]
    have e2:∀ d,listed.getD i d=listed[i]:=fun d=>by simp[hi]
    rw[e1,e2]at h1
    rw[e2]at h1
    revert h1
    cases listed[i]<;>simp
   simp[hi,hi']
  ·have hi':¬ s i<listed'.size:=by
    intro hn
    have h1:=h i true
    have h2:=h i false
    have e1:∀ d,listed'.getD (s i) d=listed'[s i]:=fun d=>by simp[hn]
    have e2:∀ d,listed.getD i d=d:=fun d=>by simp[hi]
    rw[e1,e2]at h1 h2
    rw[h1]at h2;cases h2
   simp[hi,hi']
 ·have hne:s i≠s q:=fun he=>hq (by have:=congrArg s he;rwa[hs,hs]at this)
  rw[getD_set_ne d hne,getD_set_ne d hq,h]
theorem ready_perm{md:Region.Mode}{ops ops':Array Oper}{s:Nat->Nat}(ho:∀ i,ops'[s i]? =ops[i]?)(he:∀ (i:Nat)(o:Oper),ops[i]? =some o->∀ e∈o.after,s e.on=e.on)
 {listed listed':Array Bool} (h:∀ i d,listed'.getD (s i) d=listed.getD i d) (i:Nat):s i∈Region.ready md ops' listed'↔i∈Region.ready md ops listed:=by
 rw[mem_ready,mem_ready,h,ho]
 constructor
 ·rintro⟨h0,o,h1,h2⟩
  exact⟨h0,o,h1,fun e hm hb=>by have:=h2 e hm hb;rw[<-he i o h1 e hm,h]at this;exact this⟩
 ·rintro⟨h0,o,h1,h2⟩
  exact⟨h0,o,h1,fun e hm hb=>by have:=h2 e hm hb;rw[<-he i o h1 e hm,h];exact this⟩
theorem valid_perm{md:Region.Mode}{ops ops':Array Oper}{s:Nat->Nat}(hs:∀ i,s (s i)=i)(ho:∀ i,ops'[s i]? =ops[i]?)(he:∀ (i:Nat)(o:Oper),ops[i]? =some o->∀ e∈o.after,s e.on=e.on):
 ∀(fuel:Nat) (listed listed':Array Bool) (l:List Nat),listed'.size=listed.size->(∀i d,listed'.getD (s i) d=listed.getD i d)->Valid md ops fuel listed l->Valid md ops' fuel listed' (l.map s):=by
 have nil:∀ listed listed':Array Bool,(∀i d,listed'.getD (s i) d=listed.getD i d)->Region.ready md ops listed=[]->Region.ready md ops' listed'=[]:=by
  intro listed listed' h hr
  refine List.eq_nil_iff_forall_not_mem.2 fun i hi=> ?_
  have:=(ready_perm ho he h (s i)).1 (by rw[hs];exact hi)
  rw[hr]at this;cases this
 intro fuel
 induction fuel with
 |zero=>intro listed listed' l hz h hv;exact⟨by rw[hv.1];rfl,nil _ _ h hv.2⟩
 |succ fuel ih=>
  intro listed listed' l hz h hv
  cases l with
  |nil=>exact nil _ _ h hv
  |cons i l=>
   obtain⟨g1,g2⟩:=getD_perm hs hz h i
   exact⟨(ready_perm ho he h i).2 hv.1,ih _ _ _ g1 g2 hv.2⟩
theorem wpOpsIn_perm{F:Fence}{n:Nat}{P:Program}{ops ops':Array Oper}{Q:Exit->Act->World->Prop}{s:Nat->Nat}(ho:∀ i,ops'[s i]? =ops[i]?)(hy:∀ t,yielded ops' t=yielded ops t):
 ∀(l:List Nat) (a:Act) (w:World),wpOpsIn F n P ops' Q (l.map s) a w->wpOpsIn F n P ops Q l a w:=by
 intro l
 induction l with
 |nil=>intro a w h;exact h
 |cons i l ih=>
  intro a w h
  rw[List.map_cons,wpOpsIn_cons]at h
  rw[wpOpsIn_cons]
  unfold wpOpIn at h ⊢
  rw[ho]at h
  cases hi:ops[i]? with
  |none=>rw[hi]at h;exact ih _ _ h
  |some o=>
   rw[hi]at h
   simp only at h ⊢
   rw[hy]at h
   split
   ·rename_i hw;rw[if_pos hw]at h;exact Oper.wpIn_mono (fun a w=>ih a w) h
   ·rename_i hw;rw[if_neg hw]at h;exact⟨h.1,ih _ _ h.2⟩
def swp(x y i:Nat):Nat:=if i=x then y else if i=y then x else i
theorem swp_swp(x y i:Nat):swp x y (swp x y i)=i:=by
 unfold swp
 by_cases h1:i=x
 ·subst h1
  by_cases h2:y=i
  ·simp[h2]
  ·simp[h2]
 ·by_cases h2:i=y
  ·subst h2;simp[h1]
  ·simp[h1,h2]
theorem ahead_swp{x y:Nat}(hxy:x≠y):∀ (l:List Nat),Ahead y x l->Ahead x y (l.map (swp x y)):=by
 intro l
 induction l with
 |nil=>intro _;trivial
 |cons i l ih=>
  rintro(rfl |⟨h1,h2⟩)
  ·left;unfold swp;split
   ·assumption
   ·rw[if_pos rfl]
  ·by_cases hy:i=y
   ·left;unfold swp;subst hy;rw[if_neg (Ne.symm hxy),if_pos rfl]
   ·right
    refine⟨?_,ih h2⟩
    unfold swp
    rw[if_neg h1,if_neg hy];exact hy
theorem two_orders{F:Fence}{n:Nat}{P:Program}{ops ops':Array Oper}{Q:Exit->Act->World->Prop}{a:Act}{w:World}{x y:Nat}{e:Edge}
 (hxy:x≠y) (hlx:x<ops.size) (he:e.on=x) (hsz:ops'.size=ops.size) (ho:∀ i,ops'[swp x y i]? =ops[i]?) (hy:∀ t,yielded ops' t=yielded ops t)
 (hed:∀ (i:Nat) (o:Oper),ops[i]? =some o->∀ e∈o.after,swp x y e.on=e.on)
 (h1:∀ l,Valid .any (addEdge ops y e) ops.size (Array.replicate ops.size false) l->wpOpsIn F n P (addEdge ops y e) Q l a w)
 (h2:∀ l,Valid .any (addEdge ops' y e) ops.size (Array.replicate ops.size false) l->wpOpsIn F n P (addEdge ops' y e) Q l a w):
 ∀l,Valid .any ops ops.size (Array.replicate ops.size false) l->wpOpsIn F n P ops Q l a w:=by
 intro l hv
 have same:∀ (ops:Array Oper) (z:Nat) (e:Edge) (i:Nat),∃e':Array Edge,(addEdge ops z e)[i]? =(ops[i]?).map (fun o:Oper=>{o with after:=e'}):=by
  intro ops z e i
  rw[addEdge_get]
  cases ops[i]? with
  |none=>exact⟨#[],rfl⟩
  |some o=>
   by_cases hz:i=z
   ·exact⟨o.after.push e,by simp[hz]⟩
   ·exact⟨o.after,by simp[hz]⟩
 rcases ahead_or (x:=x) (y:=y) l with ha |ha
 ·exact(wpOpsIn_after (same ops y e) _ _ _).1 (h1 _ (valid_edge he hxy _ _ _ (by simpa using hlx) hv (.inr ha)))
 ·refine wpOpsIn_perm ho hy _ _ _ ?_
  refine(wpOpsIn_after (same ops' y e) _ _ _).1 (h2 _ (valid_edge he hxy _ _ _ (by simpa using hlx) ?_ (.inr (ahead_swp hxy _ ha))))
  refine valid_perm (swp_swp x y) ho hed _ _ _ _ rfl (fun i d=> ?_) hv
  have hlt:swp x y i<ops.size↔i<ops.size:=by
   have e1:∀ k,(∃o,ops'[k]? =some o)↔k<ops.size:=fun k=>by
    rw[<-hsz]
    exact⟨fun⟨o,h⟩=>(Array.getElem?_eq_some_iff.1 h).1,fun h=>⟨ops'[k],Array.getElem?_eq_getElem h⟩⟩
   rw[<-e1,ho]
   exact⟨fun⟨o,h⟩=>(Array.getElem?_eq_some_iff.1 h).1,fun h=>⟨ops[i],Array.getElem?_eq_getElem h⟩⟩
  by_cases hi:i<ops.size
  ·simp[hi,hlt.2 hi]
  ·have h3:¬ swp x y i<ops.size:=fun h=>hi (hlt.1 h)
   have e1:(Array.replicate ops.size false)[swp x y i]? =none:=Array.getElem?_eq_none (by simp;omega)
   have e2:(Array.replicate ops.size false)[i]? =none:=Array.getElem?_eq_none (by simp;omega)
   rw[Array.getD_eq_getD_getElem?,Array.getD_eq_getD_getElem?,e1,e2]
end Go.Eng
namespace Go.Eng
open Go.RowKit
variable [Far]
def Enters(P:Program)(g:FuncId):Prop:=∀ (args:Array Value)(w:World),(callFunc g args).run P w=.ok (.enter g args) w
structure IDef where
 g:FuncId
 args:List IV
 mark:Option Nat:=none
 deriving Inhabited
structure IState where
 env:Env
 ds:List IDef
 H:IHeap
 deriving Inhabited
inductive IOut where
 |normal
 |exit (id:Nat)
 |ret
 |pan (x:IV)
 deriving Inhabited
inductive IRes where
 |ret (x:IV)
 |pan (x:IV)
 deriving Inhabited
abbrev Oracle:=FuncId->List IV->IHeap->Option (IRes×IHeap)
abbrev YOracle:=Nat->List IV->IHeap->Option (IV×IHeap)
abbrev Wf(ro:Option Nat):Fence:={Fence.wide with round:=ro}
def DefR(j:J)(w:World)(d:IDef)(d':Deferred):Prop:=
 match d.mark with
 |none=>∃ cap,d'.target=.fn (.func d.g) cap∧VRs j w d.args (d'.args++cap)
 |some b=>∃ B,d'.target=.collected B∧j b=some (B,0)
inductive DsR(j:J)(w:World):List IDef->List Deferred->Prop
 |nil:DsR j w [] []
 |cons {d d' ds ds'}(h:DefR j w d d')(t:DsR j w ds ds'):DsR j w (d::ds) (d'::ds')
theorem DsR.mono{j j':J}{w w':World}{ds:List IDef}{ds':List Deferred}(h:DsR j w ds ds')(e:Ext j w j' w'):DsR j' w' ds ds':=by
 induction h with
 |nil=>exact .nil
 |cons h _ ih=>
  refine .cons ?_ ih
  unfold DefR at h ⊢
  split at h
  ·obtain⟨cap,h1,h2⟩:=h;exact⟨cap,h1,h2.mono e⟩
  ·obtain⟨B,h1,h2⟩:=h;exact⟨B,h1,e.sub _ _ h2⟩
structure SR(n:Nat)(j:J)(s:IState)(a:Act)(w:World):Prop where
 env:EnvR j w s.env a.tmps
 size:n<=a.tmps.size
 ds:DsR j w s.ds a.defers
 sim:Sim j s.H w
def ExitR(j:J)(w:World):IOut->Exit->Prop
 | .normal,e=>e=.normal
 | .exit id,e=>e=.exit id
 | .ret,e=>e=.ret
 | .pan x,e=>∃ v,e=.panic [{v,recovered:=false}]∧VR j w x v
def EndR(j:J)(w:World):IRes->Ending->Prop
 | .ret x,.returned v=>VR j w x v
 | .pan x,.panicked ch=>∃ v,ch=[{v,recovered:=false}]∧VR j w x v
 |_,_=>False
def CallR(P:Program)(g:FuncId)(xs:List IV)(H:IHeap)(r:IRes)(H':IHeap):Prop:=
 Enters P g∧H.next<=H'.next∧∀ (j:J) (w:World) (vs:Array Value),Sim j H w->VRs j w xs vs->
  Calls P g vs w fun e w'=>∃ j',Sim j' H' w'∧Ext j w j' w'∧Stay H.next j j'∧EndR j' w' r e
def CallOk(P:Program)(C:Oracle):Prop:=∀ g xs H r H',C g xs H=some (r,H')->CallR P g xs H r H'
def YR(P:Program)(b:Nat)(xs:List IV)(H:IHeap)(x:IV)(H':IHeap):Prop:=
 H.next<=H'.next∧∀ (j:J) (w:World) (vs:Array Value) (B:Nat),j b=some (B,0)->Sim j H w->VRs j w xs vs->
  ∃fn tmps assign body,(Instr.yield B vs).run P w=.ok (.round B fn tmps assign body) w∧RoundIn Fence.wide 0 P B fn tmps assign body w fun e w'=>
   ∃j' v,e=.returned v∧Sim j' H' w'∧Ext j w j' w'∧Stay H.next j j'∧VR j' w' x v
def YOk(P:Program)(Y:YOracle):Prop:=∀ b xs H x H',Y b xs H=some (x,H')->YR P b xs H x H'
def Sound(P:Program)(rd:Bool)(n:Nat)(c:Code)(s:IState)(r:IOut×IState):Prop:=
 s.H.next<=r.2.H.next∧∀ (ro:Option Nat),(rd=false->ro=none)->∀ (j:J) (w:World) (a:Act),SR n j s a w->∀ Q:Exit->Act->World->Prop,
  (∀e j' a' w',ExitR j' w' r.1 e->SR n j' r.2 a' w'->Ext j w j' w'->Stay s.H.next j j'->Q e a' w')->c.wpIn (Wf ro) 0 P Q a w
theorem callsIn_wf{P:Program}{ro:Option Nat}{n:Nat}{f:FuncId}{args:Array Value}{w:World}{R:Ending->World->Prop}(h:Calls P f args w R):CallsIn (Wf ro) n P f args w R:=
 callsIn_wide.2 h
theorem rowsIn_wf{P:Program}{ro:Option Nat}{n:Nat}{row:String}{args:Array Value}{w:World}{R:Value->World->Prop}(h:Rows P row args w R):RowsIn (Wf ro) n P row args w R:=
 fun c cs _=>let ⟨v,w',r,s⟩:=h c cs;⟨v,w',r,stepsIn_wide.2 s⟩
theorem wpIn_of_wp{P:Program}{ro:Option Nat}{o:Oper}(hd:ro=none∨∀ c,o.op≠.defer c){a:Act}{w:World}{K:Act->World->Prop}{Q:Exit->Act->World->Prop}
 (h:o.wp P a w K Q):o.wpIn (Wf ro) 0 P a w K Q:=by
 refine⟨fun _ _=>trivial,?_⟩
 have e:o.semAt ro a.eval=execOp a.eval o:=by
  rcases hd with rfl |hd
  ·rfl
  ·exact Oper.semAt_eq _ _ _ hd
 show o.uponIn (Wf ro) 0 P a K Q ((o.semAt ro a.eval).run P w)
 rw[e]
 unfold Oper.wp at h
 generalize (execOp a.eval o).run P w=r at h ⊢
 have hd0:(Wf ro).depth.isSome=true->1<=0:=fun h=>by simp[Fence.wide]at h
 cases r with
 |ok x w'=>
  cases x with
  |value v=>exact h
  |skip=>exact h
  |defer d=>exact h
  |enter f args=>exact⟨hd0,CallsIn.mono (callsIn_wf h) (fun e w he=>by cases e<;>exact he)⟩
  |row row args=>exact⟨hd0,RowsIn.mono (rowsIn_wf h) (fun _ _ he=>he)⟩
  |_=>exact h.elim
 |halt x w'=>cases x<;>first |exact h |exact h.elim
def putI(n:Nat)(dst:Option Tmp)(x:IV)(s:IState):Option IState:=
 match dst with
 |none=>some s
 |some d=>if d<n then some {s with env:=s.env.set 40 d (some x)}else none
theorem putI_ok{n:Nat}{dst:Option Tmp}{x:IV}{s s':IState}(h:putI n dst x s=some s'){j:J}{w:World}{a:Act}(hs:SR n j s a w){v:Value}(hx:VR j w x v):
 SR n j s' (a.put dst v) w∧s'.H=s.H:=by
 unfold putI at h
 split at h
 ·injection h with h;subst h;exact⟨hs,rfl⟩
 ·split at h
  ·rename_i d hd
   injection h with h;subst h
   exact⟨⟨hs.env.put (Nat.lt_of_lt_of_le hd hs.size) hx,by simpa[Act.put]using hs.size,hs.ds,hs.sim⟩,rfl⟩
  ·cases h
theorem SR.ext{n:Nat}{j j':J}{s:IState}{a:Act}{w w':World}{H':IHeap}(hs:SR n j s a w)(e:Ext j w j' w')(h:Sim j' H' w'):SR n j' {s with H:=H'} a w':=
 ⟨hs.env.mono e,hs.size,hs.ds.mono e,h⟩
def iwanted(ops:Array Oper)(o:Oper)(env:Env):Option Bool:=
 match o.guard with
 |none=>some true
 |some (g,want)=>
  match(ops[g]?).bind (·.dst)with
  |none=>some false
  |some t=>
   match env.get t with
   |some (.sc (.bool b))=>some (b==want)
   |some (.tup _)=>some false
   |_=>none
theorem iwanted_ok{ops:Array Oper}{o:Oper}{env:Env}{t:Bool}(h:iwanted ops o env=some t){j:J}{w:World}{a:Act}(he:EnvR j w env a.tmps):
 Region.wanted o (yielded ops a.tmps)=t:=by
 unfold iwanted at h
 unfold Region.wanted
 split at h
 ·rename_i hg;injection h with h;subst h;rw[hg]
 ·rename_i g want hg
  rw[hg]
  simp only[yielded]
  split at h
  ·rename_i hd;injection h with h;subst h;rw[hd];rfl
  ·rename_i d hd
   rw[hd]
   split at h
   ·rename_i b hb
    injection h with h;subst h
    obtain⟨h1,h2⟩:=he d _ hb
    have e1:a.tmps[d]? =some (a.tmps.getD d undef):=by simp[h1]
    generalize hu:a.tmps.getD d undef=u at h2 e1
    cases h2
    simp only[Option.bind_some,e1]
    simp
   ·rename_i vs hb
    injection h with h;subst h
    obtain⟨h1,h2⟩:=he d _ hb
    have e1:a.tmps[d]? =some (a.tmps.getD d undef):=by simp[h1]
    generalize hu:a.tmps.getD d undef=u at h2 e1
    cases h2
    simp only[Option.bind_some,e1]
    rfl
   ·cases h
section
variable {P:Program}(T:TO P)(C:Oracle)(Y:YOracle)(rd:Bool)(n:Nat)
def icallee(ρ:Operand->IV)(c:Call):Option (FuncId×List IV):=
 match c.callee with
 | .value f=>
   (match ρ f with
   | .fn (.func g) first cap=>(match T.ov g||T.exs g with |true=>none |false=>some (g,first++c.args.toList.map ρ++cap))
   |_=>none)
 | .invoke r name=>
   (match ρ r with
   | .iface t x=>(match T.meth t name with |some g=>(match T.exs g with |true=>none |false=>some (g,x::c.args.toList.map ρ)) |none=>none)
   |_=>none)
 | .builtin _=>none
def iyield(ρ:Operand->IV)(c:Call):Option (Nat×List IV):=
 match c.callee with
 | .value f=>(match ρ f with | .yld b=>some (b,c.args.toList.map ρ) |_=>none)
 |_=>none
def evPlain(o:Oper)(s:IState):Option (IOut×IState):=
 match istep T s.H (evalI s.env) o with
 |some (.val x)=>(putI n o.dst x s).map (Prod.mk .normal)
 |some (.new ob f)=>(putI n o.dst (f s.H.next) {s with H:=s.H.push ob}).map (Prod.mk .normal)
 |some (.upd H' x)=>if s.H.next<=H'.next then(putI n o.dst x {s with H:=H'}).map (Prod.mk .normal)else none
 |none=>none
inductive OpK where
 |call (c:Call)
 |defer (f:Operand)(args:Array Operand)
 |panic (x:Operand)
 |other
def kindOf:Op->OpK
 | .call c=>.call c
 | .defer {callee:=.value f,args,..}=>.defer f args
 | .panic x=>.panic x
 |_=>.other
theorem kindOf_call{op:Op}{c:Call}(h:kindOf op=.call c):op=.call c:=by
 unfold kindOf at h;split at h<;>first |(injection h with h;subst h;rfl) |cases h
theorem kindOf_defer{op:Op}{f:Operand}{args:Array Operand}(h:kindOf op=.defer f args):∃ ats,op=.defer {callee:=.value f,args,argTypes:=ats}:=by
 unfold kindOf at h;split at h<;>first |(injection h with h1 h2;subst h1;subst h2;exact⟨_,rfl⟩) |cases h
theorem kindOf_panic{op:Op}{x:Operand}(h:kindOf op=.panic x):op=.panic x:=by
 unfold kindOf at h;split at h<;>first |(injection h with h;subst h;rfl) |cases h
def evDoW(o:Oper)(s:IState):Option (IOut×IState):=
 match kindOf o.op with
 | .call c=>
   (match icallee T (evalI s.env) c with
   |some (g,xs)=>
    (match C g xs s.H with
    |some (.ret x,H')=>(putI n o.dst x {s with H:=H'}).map (Prod.mk .normal)
    |some (.pan x,H')=>some (.pan x,{s with H:=H'})
    |none=>none)
   |none=>evPlain T n o s)
 | .defer f args=>
   (match rd with
   |true=>none
   |false=>
    (match evalI s.env f with
    | .fn (.func g) first cap=>(putI n o.dst (.tup []) {s with ds:=⟨g,first++args.toList.map (evalI s.env)++cap,none⟩::s.ds}).map (Prod.mk .normal)
    |_=>none))
 | .panic x=>
   (match evalI s.env x with
   | .iface t v=>some (.pan (.iface t v),s)
   |_=>none)
 | .other=>evPlain T n o s
def evDo(o:Oper)(s:IState):Option (IOut×IState):=
 match kindOf o.op with
 | .call c=>
   (match iyield (evalI s.env) c with
   |some (b,xs)=>
    (match Y b xs s.H with
    |some (x,H')=>(putI n o.dst x {s with H:=H'}).map (Prod.mk .normal)
    |none=>none)
   |none=>evDoW T C rd n o s)
 |_=>evDoW T C rd n o s
def evOp(ops:Array Oper)(o:Oper)(s:IState):Option (IOut×IState):=
 match iwanted ops o s.env with
 |none=>none
 |some false=>(putI n o.dst (.tup []) s).map (Prod.mk .normal)
 |some true=>evDo T C Y rd n o s
def OpOk(P:Program)(rd:Bool)(s:IState)(r:IOut×IState)(run:Option Nat->(Act->World->Prop)->(Exit->Act->World->Prop)->Act->World->Prop):Prop:=
 s.H.next<=r.2.H.next∧∀ (ro:Option Nat),(rd=false->ro=none)->∀ (j:J) (w:World) (a:Act),SR n j s a w->∀ (K:Act->World->Prop) (Q:Exit->Act->World->Prop),
  (∀e j' a' w',ExitR j' w' r.1 e->SR n j' r.2 a' w'->Ext j w j' w'->Stay s.H.next j j'->Exit.then K Q e a' w')->run ro K Q a w
theorem vrs_append{j:J}{w:World}{xs ys:List IV}{vs us:Array Value}(h:VRs j w xs vs)(k:VRs j w ys us):VRs j w (xs++ys) (vs++us):=by
 refine⟨by simp[h.1,k.1],fun i hi=> ?_⟩
 by_cases hlt:i<xs.length
 ·rw[List.getElem_append_left hlt]
  have:=h.2 i hlt
  rw[Array.getD_eq_getD_getElem?,Array.getElem?_append_left (by rw[h.1];exact hlt),<-Array.getD_eq_getD_getElem?]
  exact this
 ·rw[List.getElem_append_right (by omega)]
  have h1:=h.1
  rw[Array.getD_eq_getD_getElem?,Array.getElem?_append_right (by omega),h1,<-Array.getD_eq_getD_getElem?]
  exact k.2 _ _
theorem step_next{o:Oper}{s:IState}{st:Step}{r:IOut×IState}{j:J}{w:World}{a:Act}(hs:SR n j s a w)(h:istep T s.H (evalI s.env) o=some st)
 (hr:evPlain T n o s=some r) {K:Act->World->Prop} {Q:Exit->Act->World->Prop}
 (hK:∀ e j' a' w',ExitR j' w' r.1 e->SR n j' r.2 a' w'->Ext j w j' w'->Stay s.H.next j j'->Exit.then K Q e a' w'):o.wp P a w K Q:=by
 have hok:=istep_ok T h hs.sim (fun y _=>evalI_ok hs.env y)
 unfold Oper.wp
 unfold evPlain at hr
 rw[h]at hr
 cases st with
 |val x=>
  obtain⟨v,hv,hx⟩:=hok
  obtain⟨s',hp,rfl⟩:=Option.map_eq_some_iff.1 hr
  obtain⟨h1,h2⟩:=putI_ok hp hs hx
  rw[hv]
  exact hK .normal j _ w rfl h1 (Ext.refl _ _) (Stay.refl _ _)
 |new ob f=>
  obtain⟨v,w',hv,e1,e2,e3,e4,e5,e6⟩:=hok
  obtain⟨s',hp,rfl⟩:=Option.map_eq_some_iff.1 hr
  have hβ:=hs.sim.fresh _ (Nat.le_refl _)
  obtain⟨g1,g2⟩:=e6 _ hβ
  have hE:=Ext.new (d:=0) hβ e1 e2 e3 e4 e5
  have hS:=Sim.new (hs.sim.push ob) hβ (by simp[IHeap.push]) (fun o' ho'=>by
   rcases IHeap.get_push ho' with⟨_,h⟩ |⟨h,_⟩
   ·exact h
   ·exact absurd rfl h) e1 e2 e3 e4 e5 g1
  obtain⟨h1,h2⟩:=putI_ok hp (hs.ext hE hS) g2
  rw[hv]
  exact hK .normal _ _ w' rfl h1 hE (Stay.put _ _ _)
 |upd H' x=>
  simp only at hr
  split at hr
  ·rename_i hle
   obtain⟨w',v,j',hv,g1,g2,g3,g4⟩:=hok
   obtain⟨s',hp,rfl⟩:=Option.map_eq_some_iff.1 hr
   obtain⟨h1,h2⟩:=putI_ok hp (hs.ext g2 g1) g3
   rcases hv with hv |⟨hv,rfl⟩
   ·rw[hv];exact hK .normal _ _ w' rfl h1 g2 g4
   ·rw[hv];exact hK .normal _ _ w' rfl h1 g2 g4
  ·cases hr
theorem step_le{o:Oper}{s:IState}{r:IOut×IState}
 (hr:evPlain T n o s=some r):s.H.next<=r.2.H.next∧∃ st,istep T s.H (evalI s.env) o=some st:=by
 have hput:∀ {dst x} {s1 s':IState},putI n dst x s1=some s'->s'.H=s1.H:=by
  intro dst x s1 s' h
  unfold putI at h
  split at h
  ·injection h with h;subst h;rfl
  ·split at h
   ·injection h with h;subst h;rfl
   ·cases h
 unfold evPlain at hr
 split at hr
 ·rename_i x hi
  obtain⟨s',hp,rfl⟩:=Option.map_eq_some_iff.1 hr
  exact⟨by rw[hput hp];exact Nat.le_refl _,_,hi⟩
 ·rename_i ob f hi
  obtain⟨s',hp,rfl⟩:=Option.map_eq_some_iff.1 hr
  exact⟨by rw[hput hp];simp[IHeap.push],_,hi⟩
 ·rename_i H' x hi
  split at hr
  ·rename_i hle
   obtain⟨s',hp,rfl⟩:=Option.map_eq_some_iff.1 hr
   exact⟨by rw[hput hp];exact hle,_,hi⟩
  ·cases hr
 ·cases hr
theorem put_H{dst:Option Tmp}{x:IV}{s1 s':IState}(h:putI n dst x s1=some s'):s'.H=s1.H:=by
 unfold putI at h
 split at h
 ·injection h with h;subst h;rfl
 ·split at h
  ·injection h with h;subst h;rfl
  ·cases h
theorem resolve_value{ρ:Operand->Value}{f:Operand}{args:Array Operand}{ats:Array TypeId}{ty:TypeId}{g:FuncId}{first cap:Array Value}(hf:ρ f=.func (.func g) first cap)(w:World):
 (resolve ρ {callee:=.value f,args,argTypes:=ats} ty).run P w=.ok {target:=.fn (.func g) cap,args:=first++args.map ρ} w:=by
 simp[resolve,hf,Deferred.ofValue]
theorem icallee_ok{ρ:Operand->IV}{c:Call}{g:FuncId}{xs:List IV}(h:icallee T ρ c=some (g,xs))(hen:Enters P g){o:Oper}(ho:o.op=.call c){j:J}{w:World}{ρ':Operand->Value}
 (hρ:∀ y∈o.op.operands,VR j w (ρ y) (ρ' y)):∃ vs,(execOp ρ' o).run P w=.ok (.enter g vs) w∧VRs j w xs vs:=by
 obtain⟨callee,args,ats⟩:=c
 unfold icallee at h
 rw[ho]at hρ
 simp only[Op.operands,Call.operands]at hρ
 cases callee with
 |value f=>
  simp only at h
  split at h
  ·rename_i g' first cap hf
   split at h
   ·cases h
   injection h with h;injection h with h1 h2;subst h1;subst h2
   have hfv:=hρ f (by simp)
   rw[hf]at hfv
   cases hfe:ρ' f<;>rw[hfe]at hfv<;>cases hfv
   rename_i first' cap' v1 v2 v3 v4
   refine⟨first'++args.map ρ'++cap',?_,vrs_append (vrs_append ⟨v1,v2⟩ (list_ok (fun y hy=>hρ y (by simp at hy ⊢;exact .inr hy)))) ⟨v3,v4⟩⟩
   unfold execOp;rw[ho]
   simp only[Sem.run_bind,resolve_value hfe,Result.andThen_ok,invoke]
   exact hen _ _
  ·cases h
 |invoke r name=>
  simp only at h
  split at h
  ·rename_i t x hr
   split at h
   ·rename_i g' hm
    split at h
    ·cases h
    injection h with h;injection h with h1 h2;subst h1;subst h2
    have hrv:=hρ r (by simp)
    rw[hr]at hrv
    cases hre:ρ' r<;>rw[hre]at hrv<;>cases hrv
    rename_i v hv
    have hl:=list_ok (j:=j) (w:=w) (ρ:=ρ) (ρ':=ρ') (xs:=args) (fun y hy=>hρ y (by simp at hy ⊢;exact .inr hy))
    refine⟨#[v]++args.map ρ',?_,?_⟩
    ·unfold execOp;rw[ho]
     have hext:(#[Value.iface t v]++args.map ρ').extract 1 (#[Value.iface t v]++args.map ρ').size=args.map ρ':=by
      apply Array.ext'
      simp only[Array.toList_extract,Array.toList_append,List.singleton_append,List.extract_eq_take_drop,List.drop_succ_cons,List.drop_zero,Array.size_append]
      apply List.take_of_length_le
      simp
     simp only[Sem.run_bind,resolve,hre,Sem.run_pure,Result.andThen_ok,invoke]
     have h0:(#[Value.iface t v]++args.map ρ')[0]? =some (Value.iface t v):=by rw[Array.getElem?_append_left (by simp)];rfl
     simp only[h0,hext,callMethod,Sem.run_bind,run_program,Result.andThen_ok,T.hmeth _ _ _ hm v w]
     exact hen _ _
    ·have h1:VRs j w [x] #[v]:=⟨rfl,fun k hk=>by
      have:k=0:=by simpa using hk
      subst this;exact hv⟩
     exact vrs_append h1 hl
   ·cases h
  ·cases h
 |builtin b=>simp only at h;cases h
theorem iyield_ok{ρ:Operand->IV}{c:Call}{b:Nat}{xs:List IV}(h:iyield ρ c=some (b,xs)){o:Oper}(ho:o.op=.call c){j:J}{w:World}{ρ':Operand->Value}
 (hρ:∀ y∈o.op.operands,VR j w (ρ y) (ρ' y)):∃ B vs,j b=some (B,0)∧VRs j w xs vs∧(execOp ρ' o).run P w=(Instr.yield B vs).run P w:=by
 obtain⟨callee,args,ats⟩:=c
 unfold iyield at h
 rw[ho]at hρ
 simp only[Op.operands,Call.operands]at hρ
 cases callee with
 |value f=>
  simp only at h
  split at h
  ·rename_i b' hf
   injection h with h;injection h with h1 h2;subst h1;subst h2
   have hfv:=hρ f (by simp)
   rw[hf]at hfv
   generalize hfe:ρ' f=fv at hfv
   cases hfv with |yld hj=>
   rename_i B
   refine⟨B,args.map ρ',hj,list_ok (fun y hy=>hρ y (by simp at hy ⊢;exact .inr hy)),?_⟩
   unfold execOp;rw[ho]
   simp[resolve,hfe,Deferred.ofValue,invoke]
  ·cases h
 |invoke r name=>cases h
 |builtin bi=>cases h
theorem istep_nodefer{H:IHeap}{ρ:Operand->IV}{o:Oper}{st:Step}(h:istep T H ρ o=some st):∀ c,o.op≠.defer c:=by
 intro c hc
 obtain⟨dst,op,type,pos,after,guard⟩:=o
 simp only at hc;subst hc
 cases h
def OpOkW(P:Program)(s:IState)(r:IOut×IState)(run:(Act->World->Prop)->(Exit->Act->World->Prop)->Act->World->Prop):Prop:=
 s.H.next<=r.2.H.next∧∀ (j:J) (w:World) (a:Act),SR n j s a w->∀ (K:Act->World->Prop) (Q:Exit->Act->World->Prop),
  (∀e j' a' w',ExitR j' w' r.1 e->SR n j' r.2 a' w'->Ext j w j' w'->Stay s.H.next j j'->Exit.then K Q e a' w')->run K Q a w
theorem plain_ok{o:Oper}{s:IState}{r:IOut×IState}(h:evPlain T n o s=some r):OpOkW n P s r (fun K Q a w=>o.wp P a w K Q)∧∀ c,o.op≠.defer c:=by
 obtain⟨hle,st,hst⟩:=step_le T n h
 exact⟨⟨hle,fun j w a hs K Q hK=>step_next T n hs hst h hK⟩,istep_nodefer T hst⟩
theorem evDoW_ok(hC:CallOk P C){o:Oper}{s:IState}{r:IOut×IState}(h:evDoW T C rd n o s=some r):
 OpOkW n P s r (fun K Q a w=>o.wp P a w K Q)∧(rd=true->∀ c,o.op≠.defer c):=by
 unfold evDoW at h
 split at h
 ·rename_i c hop
  have hop:=kindOf_call hop
  have nd:∀ d,o.op≠.defer d:=fun d hd=>by rw[hop]at hd;cases hd
  refine⟨?_,fun _=>nd⟩
  split at h
  ·rename_i g xs hcal
   split at h
   ·rename_i x H' hcall
    obtain⟨hen,hle,hc⟩:=hC _ _ _ _ _ hcall
    obtain⟨s',hp,rfl⟩:=Option.map_eq_some_iff.1 h
    refine⟨by rw[put_H n hp];exact hle,fun j w a hs K Q hK=> ?_⟩
    obtain⟨vs,hrun,hargs⟩:=icallee_ok T hcal hen hop (fun y _=>evalI_ok hs.env y)
    show Oper.upon P o a K Q ((execOp a.eval o).run P w)
    rw[hrun]
    refine(hc j w _ hs.sim hargs).mono ?_
    rintro e w' ⟨j',q1,q2,q3,q4⟩
    cases e with
    |returned v=>
     obtain⟨h1,h2⟩:=putI_ok hp (hs.ext q2 q1) q4
     exact hK .normal j' _ w' rfl h1 q2 q3
    |panicked ch=>exact q4.elim
    |outgrown=>exact q4.elim
   ·rename_i x H' hcall
    obtain⟨hen,hle,hc⟩:=hC _ _ _ _ _ hcall
    injection h with h;subst h
    refine⟨hle,fun j w a hs K Q hK=> ?_⟩
    obtain⟨vs,hrun,hargs⟩:=icallee_ok T hcal hen hop (fun y _=>evalI_ok hs.env y)
    show Oper.upon P o a K Q ((execOp a.eval o).run P w)
    rw[hrun]
    refine(hc j w _ hs.sim hargs).mono ?_
    rintro e w' ⟨j',q1,q2,q3,q4⟩
    cases e with
    |returned v=>exact q4.elim
    |panicked ch=>
     obtain⟨v,rfl,hv⟩:=q4
     exact hK (.panic _) j' a w' ⟨v,rfl,hv⟩ (hs.ext q2 q1) q2 q3
    |outgrown=>exact q4.elim
   ·cases h
  ·exact(plain_ok T n h).1
 ·rename_i f args hop
  obtain⟨ats,hop⟩:=kindOf_defer hop
  cases rd with
  |true=>cases h
  |false=>
  refine⟨?_,fun h=>by cases h⟩
  simp only at h
  split at h
  ·rename_i g first cap hf
   obtain⟨s',hp,rfl⟩:=Option.map_eq_some_iff.1 h
   refine⟨by rw[put_H n hp];exact Nat.le_refl _,fun j w a hs K Q hK=> ?_⟩
   have hfv:=evalI_ok hs.env f
   rw[hf]at hfv
   cases hfe:a.eval f<;>rw[hfe]at hfv<;>cases hfv
   rename_i first' cap' v1 v2 v3 v4
   have hargs:VRs j w (first++args.toList.map (evalI s.env)++cap) (first'++args.map a.eval++cap'):=
    vrs_append (vrs_append ⟨v1,v2⟩ (list_ok (fun y _=>evalI_ok hs.env y))) ⟨v3,v4⟩
   show Oper.upon P o a K Q ((execOp a.eval o).run P w)
   have:(execOp a.eval o).run P w=.ok (.defer {target:=.fn (.func g) cap',args:=first'++args.map a.eval}) w:=by
    unfold execOp;rw[hop]
    simp only[Sem.run_bind,resolve_value hfe,Result.andThen_ok,Sem.run_pure]
   rw[this]
   have hs2:SR n j {s with ds:=⟨g,first++args.toList.map (evalI s.env)++cap,none⟩::s.ds} {a with defers:={target:=.fn (.func g) cap',args:=first'++args.map a.eval}::a.defers} w:=
    ⟨hs.env,hs.size,.cons ⟨cap',rfl,hargs⟩ hs.ds,hs.sim⟩
   obtain⟨h1,h2⟩:=putI_ok hp hs2 (v:=undef) (.tup (cs:=[]) (by simp[undef]) (fun k hk=>by simp at hk))
   exact hK .normal j _ w rfl h1 (Ext.refl _ _) (Stay.refl _ _)
  ·cases h
 ·rename_i x hop
  have hop:=kindOf_panic hop
  refine⟨?_,fun _ c hc=>by rw[hop]at hc;cases hc⟩
  split at h
  ·rename_i t v hx
   injection h with h;subst h
   refine⟨Nat.le_refl _,fun j w a hs K Q hK=> ?_⟩
   have hv:=evalI_ok hs.env x
   rw[hx]at hv
   cases hfe:a.eval x<;>rw[hfe]at hv<;>cases hv
   rename_i u hu
   show Oper.upon P o a K Q ((execOp a.eval o).run P w)
   have:(execOp a.eval o).run P w=.halt (.panic (.iface t u)) w:=by
    unfold execOp;rw[hop]
    simp[hfe,Instr.panic,goPanic]
   rw[this]
   exact hK (.panic _) j a w ⟨_,rfl,.iface hu⟩ hs (Ext.refl _ _) (Stay.refl _ _)
  ·cases h
 ·exact⟨(plain_ok T n h).1,fun _=>(plain_ok T n h).2⟩
theorem evDo_ok(hC:CallOk P C)(hY:YOk P Y){o:Oper}{s:IState}{r:IOut×IState}(h:evDo T C Y rd n o s=some r):
 OpOk n P rd s r (fun ro K Q a w=>o.wpIn (Wf ro) 0 P a w K Q):=by
 have other:evDoW T C rd n o s=some r->OpOk n P rd s r (fun ro K Q a w=>o.wpIn (Wf ro) 0 P a w K Q):=fun h=>by
  obtain⟨⟨h1,h2⟩,h3⟩:=evDoW_ok T C rd n hC h
  refine⟨h1,fun ro hro j w a hs K Q hK=>wpIn_of_wp ?_ (h2 j w a hs K Q hK)⟩
  cases rd with
  |true=>exact .inr (h3 rfl)
  |false=>exact .inl (hro rfl)
 unfold evDo at h
 split at h
 ·rename_i c hop
  have hop:=kindOf_call hop
  have nd:∀ d,o.op≠.defer d:=fun d hd=>by rw[hop]at hd;cases hd
  split at h
  ·rename_i b xs hy
   split at h
   ·rename_i x H' hyc
    obtain⟨hle,hc⟩:=hY _ _ _ _ _ hyc
    obtain⟨s',hp,rfl⟩:=Option.map_eq_some_iff.1 h
    refine⟨by rw[put_H n hp];exact hle,fun ro hro j w a hs K Q hK=>⟨fun _ _=>trivial,?_⟩⟩
    obtain⟨B,vs,hB,hargs,hrun⟩:=iyield_ok hy hop (fun y _=>evalI_ok hs.env y) (P:=P)
    show o.uponIn (Wf ro) 0 P a K Q ((o.semAt ro a.eval).run P w)
    rw[Oper.semAt_eq _ _ _ nd,hrun]
    obtain⟨fn,tmps,assign,body,y1,y2⟩:=hc j w vs B hB hs.sim hargs
    rw[y1]
    refine⟨(fun h=>by simp[Fence.wide]at h),RoundIn.mono (F:=Wf ro) y2 ?_⟩
    rintro e w' ⟨j',v,rfl,q1,q2,q3,q4⟩
    obtain⟨h1,h2⟩:=putI_ok hp (hs.ext q2 q1) q4
    exact hK .normal j' _ w' rfl h1 q2 q3
   ·cases h
  ·exact other h
 ·exact other h
theorem undef_ok(j:J)(w:World):VR j w (.tup []) undef:=.tup (cs:=[]) (by simp[undef]) (fun k hk=>by simp at hk)
end
end Go.Eng
namespace Go.Eng
open Go.RowKit
variable [Far]
structure FI where
 body:Code
 ntmps:Nat
 results:List ResultVar
 deriving Inhabited
abbrev FTab:=Nat->Option FI
def FTabOk(P:Program)(F:FTab):Prop:=∀ g fi,F g=some fi->Enters P g∧∃ fn:Func,P.funcs[g]? =some fn∧fn.body=some fi.body∧fn.ntmps=fi.ntmps∧fn.results.toList=fi.results
abbrev Draws:=Nat->Array Oper->IState->Option (IOut×IState)
def DrawsOk(P:Program)(D:Draws):Prop:=P.follows .mixedOrders=true∧∀ n ops s r,D n ops s=some r->
 s.H.next<=r.2.H.next∧∀ (ro:Option Nat) (j:J) (w:World) (a:Act),SR n j s a w->∀ Q:Exit->Act->World->Prop,
  (∀e j' a' w',ExitR j' w' r.1 e->SR n j' r.2 a' w'->Ext j w j' w'->Stay s.H.next j j'->Q e a' w')->
  ∀l,Valid .any ops ops.size (Array.replicate ops.size false) l->wpOpsIn (Wf ro) 0 P ops Q l a w.drew
theorem DrawsOk.sound{P:Program}{D:Draws}(h:DrawsOk P D){rd:Bool}{n id:Nat}{ops:Array Oper}{s:IState}{r:IOut×IState}(hr:D n ops s=some r):Sound P rd n (.region id ops true) s r:=
 ⟨(h.2 _ _ _ _ hr).1,fun ro _ j w a hs Q hQ=>wpIn_region_draw fun t=>by
   simp only[Region.schedule,h.1,Bool.true_or,if_true]
   exact(h.2 _ _ _ _ hr).2 ro j w a hs Q hQ _ (valid_linearise ops t)⟩
section
variable {P:Program}(T:TO P)(C:Oracle)(Y:YOracle)(D:Draws)(rd:Bool)(n:Nat)
def evOps(ops:Array Oper):List Oper->IState->Option (IOut×IState)
 | [],s=>some (.normal,s)
 |o::l,s=>
  match evOp T C Y rd n ops o s with
  |some (.normal,s')=>evOps ops l s'
  |some (.pan x,s')=>some (.pan x,s')
  |_=>none
theorem evOp_ok(hC:CallOk P C)(hY:YOk P Y){ops:Array Oper}{i:Nat}{o:Oper}(ho:ops[i]? =some o){s:IState}{r:IOut×IState}(h:evOp T C Y rd n ops o s=some r):
 OpOk n P rd s r (fun ro K Q a w=>wpOpIn (Wf ro) 0 P ops Q i K a w):=by
 unfold evOp at h
 split at h
 ·cases h
 ·rename_i hw
  obtain⟨s',hp,rfl⟩:=Option.map_eq_some_iff.1 h
  refine⟨by rw[put_H n hp];exact Nat.le_refl _,fun ro hro j w a hs K Q hK=> ?_⟩
  have hw':=iwanted_ok hw hs.env
  show wpOpIn (Wf ro) 0 P ops Q i K a w
  simp only[wpOpIn,ho,hw',Bool.false_eq_true,if_false]
  obtain⟨h1,h2⟩:=putI_ok hp hs (undef_ok j w)
  exact⟨fun _ _=>trivial,hK .normal j _ w rfl h1 (Ext.refl _ _) (Stay.refl _ _)⟩
 ·rename_i hw
  obtain⟨hle,hd⟩:=evDo_ok T C Y rd n hC hY h
  refine⟨hle,fun ro hro j w a hs K Q hK=> ?_⟩
  have hw':=iwanted_ok hw hs.env
  show wpOpIn (Wf ro) 0 P ops Q i K a w
  simp only[wpOpIn,ho,hw',if_true]
  exact hd ro hro j w a hs K Q hK
theorem evOps_ok(hC:CallOk P C)(hY:YOk P Y){ops:Array Oper}:∀ (l:List Oper)(k:Nat),ops.toList.drop k=l->∀ (s:IState)(r:IOut×IState),evOps T C Y rd n ops l s=some r->
 OpOk n P rd s r (fun ro K Q a w=>wpOpsIn (Wf ro) 0 P ops (fun e a w=>Exit.then K Q e a w) (List.range' k (ops.size - k)) a w):=by
 intro l
 induction l with
 |nil=>
  intro k hk s r h
  simp only[evOps]at h
  injection h with h;subst h
  have:ops.size - k=0:=by have:=congrArg List.length hk;simp at this;exact this
  refine⟨Nat.le_refl _,fun ro hro j w a hs K Q hK=> ?_⟩
  show wpOpsIn (Wf ro) 0 P ops _ (List.range' k (ops.size - k)) a w
  rw[this]
  exact hK .normal j a w rfl hs (Ext.refl _ _) (Stay.refl _ _)
 |cons o l ih=>
  intro k hk s r h
  have hlt:k<ops.size:=by have:=congrArg List.length hk;simp at this;omega
  have ho:ops[k]? =some o:=by
   have:(ops.toList.drop k)[0]? =some o:=by rw[hk];rfl
   simpa using this
  have hk':ops.toList.drop (k+1)=l:=by
   have:(ops.toList.drop k).drop 1=l:=by rw[hk];rfl
   rw[List.drop_drop]at this;exact this
  have hr:List.range' k (ops.size - k)=k::List.range' (k+1) (ops.size - (k+1)):=by
   have:ops.size - k=(ops.size - (k+1))+1:=by omega
   rw[this,List.range'_succ]
  simp only[evOps]at h
  split at h
  ·rename_i s' he
   obtain⟨g1,g2⟩:=evOp_ok T C Y rd n hC hY ho he
   obtain⟨g3,g4⟩:=ih (k+1) hk' s' r h
   refine⟨Nat.le_trans g1 g3,fun ro hro j w a hs K Q hK=> ?_⟩
   show wpOpsIn (Wf ro) 0 P ops _ (List.range' k (ops.size - k)) a w
   rw[hr,wpOpsIn_cons]
   refine g2 ro hro j w a hs _ _ ?_
   intro e j' a' w' he' hs' hx ht
   cases he'
   refine g4 ro hro j' w' a' hs' K Q ?_
   intro e j'' a'' w'' k1 k2 k3 k4
   exact hK e j'' a'' w'' k1 k2 (hx.trans k3) (ht.trans k4 g1)
  ·rename_i x s' he
   injection h with h;subst h
   obtain⟨g1,g2⟩:=evOp_ok T C Y rd n hC hY ho he
   refine⟨g1,fun ro hro j w a hs K Q hK=> ?_⟩
   show wpOpsIn (Wf ro) 0 P ops _ (List.range' k (ops.size - k)) a w
   rw[hr,wpOpsIn_cons]
   refine g2 ro hro j w a hs _ _ ?_
   intro e j' a' w' he' hs' hx ht
   have:=hK e j' a' w' he' hs' hx ht
   obtain⟨v,rfl,hv⟩:=he'
   exact this
  ·cases h
def ipend:Option Code->Option IOut
 |none=>some .normal
 |some .ret=>some .ret
 |some (.exit id)=>some (.exit id)
 |some _=>none
def iended:Option IObj->Option IOut
 |some (.loop .busy ..)=>none
 |some (.loop _ pend ..)=>ipend pend
 |_=>none
def evRange(f:Operand)(ps:Array Tmp)(assign body:Code)(s:IState):Option (IOut×IState):=
 match evalI s.env f with
 | .fn (.func g) first cap=>
   (match C g (first++[.yld (s.H.next+1)]++cap) ((s.H.push .dfr).push (.loop .ready none s.env n ps.toList assign body s.H.next))with
   |some (.ret _,H3)=>
    (match iended (H3.get (s.H.next+1))with
    |some o=>some (o,{s with H:=H3.set (s.H.next+1) none,ds:=⟨0,[],some s.H.next⟩::s.ds})
    |none=>none)
   |_=>none)
 |_=>none
def evCode:Nat->Code->IState->Option (IOut×IState)
 |0,_,_=>none
 |k+1,c,s=>
  match c with
  | .skip | .label _=>some (.normal,s)
  | .ret=>some (.ret,s)
  | .exit id=>some (.exit id,s)
  | .seq a b=>
    (match evCode k a s with
    |some (.normal,s')=>evCode k b s'
    |r=>r)
  | .cond c a b=>
    (match evalI s.env c with
    | .sc (.bool t)=>evCode k (if t then a else b) s
    |_=>none)
  | .block id c=>
    (match evCode k c s with
    |some (.exit id',s')=>if id'=id then some (.normal,s')else some (.exit id',s')
    |r=>r)
  | .loop c=>
    (match evCode k c s with
    |some (.normal,s')=>evCode k (.loop c) s'
    |r=>r)
  | .region _ ops false=>evOps T C Y rd n ops ops.toList s
  | .region _ ops true=>D n ops s
  | .rangeFunc f ps assign body=>(match rd with |true=>none |false=>evRange C n f ps assign body s)
  | .scope c=>evCode k c s
  |_=>none
def LoopAt(P:Program)(F:Fence)(c:Code)(Q:Exit->Act->World->Prop)(a:Act)(w:World):Prop:=
 ∀(b:Frame) (k:List Item) (cs:List Frame),b.roundOf=F.round->F.fn b.fn->F.room (cs.length+1+0)->
  ∃e a' w',Q e a' w'∧ArrivesIn (Machine.fenced P F) P (lone (b.atR a (.code c::.inLoop c::k)) cs w) b k cs e a' w'
theorem LoopAt.wp{F:Fence}{c:Code}{Q:Exit->Act->World->Prop}{a:Act}{w:World}(h:LoopAt P F c Q a w):(Code.loop c).wpIn F 0 P Q a w:=by
 intro b k cs hro hb hr
 obtain⟨e,a',w',hq,harr⟩:=h b k cs hro hb hr
 exact⟨e,a',w',hq,.of_steps (.one (fenced_calm hb hr rfl) stepR_loop) harr⟩
theorem LoopAt.round{F:Fence}{c:Code}{Q:Exit->Act->World->Prop}{a:Act}{w:World}(h:c.wpIn F 0 P (Exit.then (LoopAt P F c Q) Q) a w):LoopAt P F c Q a w:=by
 intro b k cs hro hb hr
 obtain⟨e,a₁,w₁,hq,harr⟩:=h b (.inLoop c::k) cs hro hb hr
 cases e with
 |normal=>
  obtain⟨e₂,a₂,w₂,hq₂,harr₂⟩:=hq b k cs hro hb hr
  exact⟨e₂,a₂,w₂,hq₂,.of_steps (StepsIn.trans harr (.one (fenced_calm hb hr rfl) stepR_inLoop)) harr₂⟩
 |exit id=>exact⟨_,a₁,w₁,hq,.pass (x:=.inLoop c) rfl (fun _ _=>.inl (by simp)) harr⟩
 |goto l=>exact⟨_,a₁,w₁,hq,.pass (x:=.inLoop c) rfl (fun _ _=>.inl (by simp)) harr⟩
 |ret=>exact⟨_,a₁,w₁,hq,.pass (x:=.inLoop c) rfl (fun _ _=>.inl (by simp)) harr⟩
 |panic ch=>exact⟨_,a₁,w₁,hq,.pass (x:=.inLoop c) rfl (fun _ _=>.inl (by simp)) harr⟩
 |outgrown=>exact⟨_,a₁,w₁,hq,.pass (x:=.inLoop c) rfl (fun _ _=>.inl (by simp)) harr⟩
theorem wpIn_scope{F:Fence}{c:Code}{Q:Exit->Act->World->Prop}{a:Act}{w:World}(h:c.wpIn F 0 P (fun e a w=>(∀l,e≠.goto l)∧Q e a w) a w):(Code.scope c).wpIn F 0 P Q a w:=by
 intro b k cs hro hb hr
 have h0:(lone (b.atR a (.code (.scope c)::k)) cs w).fenced P F:=fenced_calm hb hr rfl
 have s0:step P (lone (b.atR a (.code (.scope c)::k)) cs w)=.next (lone (b.atR a (.code c::.inScope c::k)) cs w):=step_lone_go (by simp[stepG,stepG.exec,Frame.atR])
 have s1:∀ a w,step P (lone (b.atR a (.inScope c::k)) cs w)=.next (lone (b.atR a k) cs w):=fun a w=>step_lone_go (by simp[stepG,stepG.exec,Frame.atR])
 obtain⟨e,a₁,w₁,⟨hg,hq⟩,harr⟩:=h b (.inScope c::k) cs hro hb hr
 cases e with
 |normal=>exact⟨.normal,a₁,w₁,hq,.head h0 s0 (StepsIn.trans harr (.one (fenced_calm hb hr rfl) (s1 _ _)))⟩
 |exit id=>
  have hx:exitTo id (.inScope c::k)=exitTo id k:=by simp[exitTo]
  exact⟨.exit id,a₁,w₁,hq,fun k' hk=>.head h0 s0 (harr.1 k' (by rw[hx];exact hk)),
   fun hr' hk=>let ⟨k₁,h1,h2⟩:=harr.2 hr' (by rw[hx];exact hk);⟨k₁,h1,.head h0 s0 h2⟩⟩
 |goto l=>exact absurd rfl (hg l)
 |ret=>exact⟨_,a₁,w₁,hq,.of_steps (.one h0 s0) harr⟩
 |panic ch=>exact⟨_,a₁,w₁,hq,.of_steps (.one h0 s0) harr⟩
 |outgrown=>exact⟨_,a₁,w₁,hq,.of_steps (.one h0 s0) harr⟩
theorem ExitR.noGoto{j:J}{w:World}{o:IOut}{e:Exit}(h:ExitR j w o e)(l:Nat):e≠.goto l:=by
 cases o<;>simp only[ExitR]at h
 ·subst h;simp
 ·subst h;simp
 ·subst h;simp
 ·obtain⟨v,rfl,_⟩:=h;simp
def SoundLoop(P:Program)(rd:Bool)(n:Nat)(c:Code)(s:IState)(r:IOut×IState):Prop:=
 ∀(ro:Option Nat),(rd=false->ro=none)->∀ (j:J) (w:World) (a:Act),SR n j s a w->∀ Q:Exit->Act->World->Prop,
  (∀e j' a' w',ExitR j' w' r.1 e->SR n j' r.2 a' w'->Ext j w j' w'->Stay s.H.next j j'->Q e a' w')->LoopAt P (Wf ro) c Q a w
theorem not_normal{j:J}{w:World}{x:IOut}{e:Exit}(h:ExitR j w x e)(hx:∀ u,(x,u)≠((IOut.normal,u):IOut×Unit)):e≠.normal:=by
 cases x with
 |normal=>exact absurd rfl (hx ())
 |exit id=>rw[h];intro h;cases h
 |ret=>rw[h];intro h;cases h
 |pan x=>obtain⟨v,rfl,_⟩:=h;intro h;cases h
theorem then_other{next:Act->World->Prop}{Q:Exit->Act->World->Prop}{e:Exit}{a:Act}{w:World}(h:e≠.normal)(hq:Q e a w):Exit.then next Q e a w:=by
 cases e<;>first |exact absurd rfl h |exact hq
theorem Sim.setDead{j:J}{H:IHeap}{w:World}(hs:Sim j H w){b B d:Nat}{o:IObj}{o1 o2:Obj}(hget:H.get b=some o)(hj:j b=some (B,d))(h:w.heap[B]? =some o1)(hn:∀ C e f,o1≠.cells C e f):
 Sim j (H.set b none) (w.putObj B o2)∧Ext j w j (w.putObj B o2):=by
 have hE:Ext j w j (w.putObj B o2):={
  os:=rfl,tape:=rfl,output:=rfl,size:=by simp
  sub:=fun _ _ h=>h
  keep:=fun B' _ hn2=>⟨World.putObj_heap_other (by rintro rfl;exact hn2 ⟨b,d,hj⟩),hn2⟩
  cells:=fun B' C e f hb=>⟨C,by rw[World.putObj_heap_other (by rintro rfl;rw[h]at hb;injection hb with hb;exact hn _ _ _ hb)];exact hb,rfl⟩}
 refine⟨?_,hE⟩
 exact{
  live:=fun c o2 B2 d2 hc hjc=>by
   rcases IHeap.get_set hc with⟨_,h1⟩ |⟨h1,h2⟩
   ·cases h1
   ·have hne:B2≠B:=by
     rintro rfl
     exact h1 (hs.inj c b o2 _ _ _ _ h2 hget hjc hj)
    exact(hs.live c o2 B2 d2 h2 hjc).mono hE (World.putObj_heap_other hne)
  inj:=fun b1 b2 o1 o2 B0 d1 d2 h1 h2 j1 j2=>by
   rcases IHeap.get_set h1 with⟨_,hh⟩ |⟨_,g1⟩
   ·cases hh
   ·rcases IHeap.get_set h2 with⟨_,hh⟩ |⟨_,g2⟩
    ·cases hh
    ·exact hs.inj b1 b2 o1 o2 B0 d1 d2 g1 g2 j1 j2
  fresh:=hs.fresh
  bound:=fun c B0 d0 hjc=>by simpa using hs.bound c B0 d0 hjc
  glob:=fun g cs h=>(hs.glob g cs h).mono hE
  far:=fun B hX=>by simpa using hs.far B hX}
theorem Sim.alloc{j:J}{H:IHeap}{w:World}(hs:Sim j H w)(o:IObj)(ob:Obj)(hO:OR (j.put H.next (w.heap.size,0)) (w.alloc ob) w.heap.size 0 o):
 Sim (j.put H.next (w.heap.size,0)) (H.push o) (w.alloc ob)∧Ext j w (j.put H.next (w.heap.size,0)) (w.alloc ob):=by
 have hβ:=hs.fresh _ (Nat.le_refl _)
 have hsize:(w.alloc ob).heap.size=w.heap.size+1:=by simp
 have hold:=fun B hB=>heap_alloc_old w ob B hB
 refine⟨Sim.new (hs.push o) hβ (by simp[IHeap.push]) (fun o' ho'=> ?_) rfl rfl rfl hsize hold hO,Ext.new (d:=0) hβ rfl rfl rfl hsize hold⟩
 rcases IHeap.get_push ho' with⟨_,h⟩ |⟨h,_⟩
 ·exact h
 ·exact absurd rfl h
theorem range_ok(hC:CallOk P C){f:Operand}{ps:Array Tmp}{assign body:Code}{s:IState}{r:IOut×IState}(h:evRange C n f ps assign body s=some r):
 Sound P false n (.rangeFunc f ps assign body) s r:=by
 unfold evRange at h
 split at h
 ·rename_i g first cap hf
  split at h
  ·rename_i x H3 hcall
   split at h
   ·rename_i o hend
    injection h with h;subst h
    obtain⟨hen,hle,hc⟩:=hC _ _ _ _ _ hcall
    have hle':s.H.next+2<=H3.next:=hle
    refine⟨by show s.H.next<=H3.next;omega,fun ro hro j w a hs Q hQ=> ?_⟩
    obtain rfl:=hro rfl
    obtain⟨S1,E1⟩:=hs.sim.alloc .dfr (.deferred (some [])) ⟨rfl,heap_alloc_new _ _⟩
    have jN:(j.put s.H.next (w.heap.size,0)) s.H.next=some (w.heap.size,0):=J.put_same _ _ _
    refine wpIn_rangeFunc fun fn _=> ?_
    let L:Loop:={state:=.ready,pending:=none,fn,tmps:=a.tmps,params:=ps,assign,body,defers:=w.heap.size}
    have hb1:(w.alloc (.deferred (some []))).heap.size=w.heap.size+1:=by simp
    have hnx:(s.H.push IObj.dfr).next=s.H.next+1:=rfl
    obtain⟨S2,E2⟩:=S1.alloc (.loop .ready none s.env n ps.toList assign body s.H.next) (.loop L) (by
     refine⟨rfl,L,heap_alloc_new _ _,rfl,rfl,rfl,rfl,rfl,hs.size,?_,?_⟩
     ·refine(hs.env.mono E1).mono ?_
      exact Ext.new (d:=0) (S1.fresh _ (Nat.le_refl _)) rfl rfl rfl (by simp) (fun B hB=>heap_alloc_old _ _ B hB)
     ·rw[J.put_other _ _ (by rw[hnx];omega)];exact jN)
    rw[hb1,hnx]at S2 E2
    have hfv:=(evalI_ok hs.env f).mono (E1.trans E2)
    rw[hf]at hfv
    cases hfe:a.eval f<;>rw[hfe]at hfv<;>cases hfv
    rename_i first' cap' v1 v2 v3 v4
    have hyl:VR ((j.put s.H.next (w.heap.size,0)).put (s.H.next+1) (w.heap.size+1,0)) ((w.alloc (.deferred (some []))).alloc (.loop L)) (.yld (s.H.next+1)) (.func (.yield (w.heap.size+1)) #[] #[]):=.yld (J.put_same _ _ _)
    have hargs:=vrs_append (vrs_append ⟨v1,v2⟩ (show VRs _ _ [IV.yld (s.H.next+1)] #[Value.func (.yield (w.heap.size+1)) #[] #[]]from ⟨rfl,fun k hk=>by
     have:k=0:=by simpa using hk
     subst this;exact hyl⟩)) ⟨v3,v4⟩
    refine⟨w.heap.size+1,_,_,{target:=.fn (.func g) cap',args:=first'++ #[Value.func (.yield (w.heap.size+1)) #[] #[]]},(w.alloc (.deferred (some []))).alloc (.loop L),g,
     first'++ #[Value.func (.yield (w.heap.size+1)) #[] #[]]++cap',(w.alloc (.deferred (some []))).alloc (.loop L),run_enterLoop_outer fn a.tmps ps assign body,?_,fun _ _=>trivial,?_,(fun h=>by simp[Fence.wide]at h),?_⟩
    ·have:=resolve_value (P:=P) (args:= #[.const (.func (.yield (w.heap.size+1)) #[] #[])]) (ats:= #[]) (ty:=0) hfe ((w.alloc (.deferred (some []))).alloc (.loop L))
     simpa[Act.eval]using this
    ·simp only[invoke];exact hen _ _
    ·refine CallsIn.mono (callsIn_wf (hc _ _ _ S2 hargs)) ?_
     rintro e w3 ⟨j3,q1,q2,q3,q4⟩
     cases e with
     |panicked ch=>exact q4.elim
     |outgrown=>exact q4.elim
     |returned v=>
      have hjl:j3 (s.H.next+1)=some (w.heap.size+1,0):=q2.sub _ _ (J.put_same _ _ _)
      have hjd:j3 s.H.next=some (w.heap.size,0):=q2.sub _ _ (by rw[J.put_other _ _ (by omega)];exact jN)
      unfold iended at hend
      have fin:∀ (st:LoopState) (pend:Option Code) (env:Env) (n0:Nat) (ps0:List Nat) (as0 bd0:Code) (df0:Nat),H3.get (s.H.next+1)=some (.loop st pend env n0 ps0 as0 bd0 df0)->st≠.busy->ipend pend=some o->
       rangePost (Wf none) 0 P (w.heap.size+1) Q {a with defers:=[{target:=.collected w.heap.size,args:= #[]}]++a.defers} (.returned v) w3:=by
       intro st pend env n0 ps0 as0 bd0 df0 hg hst hp
       obtain⟨_,r0,l1,l2,l3,_⟩:=q1.live _ _ _ _ hg hjl
       obtain⟨S4,E4⟩:=q1.setDead (o2:=.loop {r0 with state:=.exhausted}) hg hjl l1 (fun _ _ _ h=>by cases h)
       refine⟨pend,_,by rw[<-l3];exact run_endLoop l1 (by rw[l2];exact hst),?_⟩
       have E:=(E1.trans E2).trans (q2.trans E4)
       have hT:Stay s.H.next j j3:=fun b hb=>by
        rw[q3 b (by show b<s.H.next+2;omega),J.put_other _ _ (by omega),J.put_other _ _ (by omega)]
       have hsr:SR n j3 {s with H:=H3.set (s.H.next+1) none,ds:=⟨0,[],some s.H.next⟩::s.ds} {a with defers:=[{target:=.collected w.heap.size,args:= #[]}]++a.defers} (w3.putObj (w.heap.size+1) (.loop {r0 with state:=.exhausted})):=
        ⟨hs.env.mono E,hs.size,.cons ⟨w.heap.size,rfl,hjd⟩ (hs.ds.mono E),S4⟩
       cases pend with
       |none=>simp only[ipend,Option.some.injEq]at hp;subst hp;exact hQ .normal j3 _ _ rfl hsr E hT
       |some c=>
        cases c with
        |ret=>simp only[ipend,Option.some.injEq]at hp;subst hp;exact wpIn_ret (hQ .ret j3 _ _ rfl hsr E hT)
        |exit id=>simp only[ipend,Option.some.injEq]at hp;subst hp;exact wpIn_exit (hQ (.exit id) j3 _ _ rfl hsr E hT)
        |_=>simp only[ipend,reduceCtorEq]at hp
      split at hend
      ·cases hend
      ·rename_i st pend env n0 ps0 as0 bd0 df0 hb hg
       exact fin st pend env n0 ps0 as0 bd0 df0 hg (fun h=>hb h) hend
      ·cases hend
   ·cases h
  ·cases h
 ·cases h
theorem evCode_ok(hC:CallOk P C)(hY:YOk P Y)(hD:DrawsOk P D):∀ (k:Nat)(c:Code)(s:IState)(r:IOut×IState),evCode T C Y D rd n k c s=some r->
 Sound P rd n c s r∧(∀c',c=.loop c'->SoundLoop P rd n c' s r):=by
 intro k
 induction k with
 |zero=>intro c s r h;cases h
 |succ k ih=>
  intro c s r h
  simp only[evCode]at h
  cases c with
  |skip=>
   simp only at h;injection h with h;subst h
   exact⟨⟨Nat.le_refl _,fun ro hro j w a hs Q hQ=>wpIn_skip (hQ _ j a w rfl hs (Ext.refl _ _) (Stay.refl _ _))⟩,fun _ h=>by cases h⟩
  |label l=>
   simp only at h;injection h with h;subst h
   exact⟨⟨Nat.le_refl _,fun ro hro j w a hs Q hQ=>wpIn_label (hQ _ j a w rfl hs (Ext.refl _ _) (Stay.refl _ _))⟩,fun _ h=>by cases h⟩
  |ret=>
   simp only at h;injection h with h;subst h
   exact⟨⟨Nat.le_refl _,fun ro hro j w a hs Q hQ=>wpIn_ret (hQ _ j a w rfl hs (Ext.refl _ _) (Stay.refl _ _))⟩,fun _ h=>by cases h⟩
  |exit id=>
   simp only at h;injection h with h;subst h
   exact⟨⟨Nat.le_refl _,fun ro hro j w a hs Q hQ=>wpIn_exit (hQ _ j a w rfl hs (Ext.refl _ _) (Stay.refl _ _))⟩,fun _ h=>by cases h⟩
  |seq x y=>
   refine⟨?_,fun _ h=>by cases h⟩
   simp only at h
   split at h
   ·rename_i s' he
    obtain⟨⟨g1,g2⟩,_⟩:=ih _ _ _ he
    obtain⟨⟨g3,g4⟩,_⟩:=ih _ _ _ h
    refine⟨Nat.le_trans g1 g3,fun ro hro j w a hs Q hQ=>wpIn_seq (g2 ro hro j w a hs _ ?_)⟩
    intro e j' a' w' h1 h2 h3 h4
    cases h1
    exact g4 ro hro j' w' a' h2 Q fun e j2 a2 w2 k1 k2 k3 k4=>hQ e j2 a2 w2 k1 k2 (h3.trans k3) (h4.trans k4 g1)
   ·rename_i hne
    obtain⟨⟨g1,g2⟩,_⟩:=ih _ _ _ h
    refine⟨g1,fun ro hro j w a hs Q hQ=>wpIn_seq (g2 ro hro j w a hs _ ?_)⟩
    intro e j' a' w' h1 h2 h3 h4
    refine then_other ?_ (hQ e j' a' w' h1 h2 h3 h4)
    refine not_normal h1 fun u hu=> ?_
    injection hu with hu _
    obtain⟨r1,r2⟩:=r
    simp only at hu;subst hu
    exact hne _ h
  |cond x y z=>
   refine⟨?_,fun _ h=>by cases h⟩
   simp only at h
   split at h
   ·rename_i t ht
    obtain⟨⟨g1,g2⟩,_⟩:=ih _ _ _ h
    refine⟨g1,fun ro hro j w a hs Q hQ=> ?_⟩
    have hv:=evalI_ok hs.env x
    rw[ht]at hv
    have hc:a.eval x=.bool t:=by
     cases hv':a.eval x<;>rw[hv']at hv<;>cases hv
     rfl
    exact wpIn_cond hc (g2 ro hro j w a hs Q hQ)
   ·cases h
  |scope c=>
   refine⟨?_,fun _ h=>by cases h⟩
   simp only at h
   obtain⟨⟨g1,g2⟩,_⟩:=ih _ _ _ h
   exact⟨g1,fun ro hro j w a hs Q hQ=>wpIn_scope (g2 ro hro j w a hs _ fun e j' a' w' h1 h2 h3 h4=>⟨h1.noGoto,hQ e j' a' w' h1 h2 h3 h4⟩)⟩
  |block id c=>
   refine⟨?_,fun _ h=>by cases h⟩
   simp only at h
   split at h
   ·rename_i id' s' he
    obtain⟨⟨g1,g2⟩,_⟩:=ih _ _ _ he
    split at h
    ·rename_i hid
     injection h with h;subst h
     refine⟨g1,fun ro hro j w a hs Q hQ=>wpIn_block (g2 ro hro j w a hs _ ?_)⟩
     intro e j' a' w' h1 h2 h3 h4
     cases h1
     simp only[Exit.inBlock,hid,if_true]
     exact hQ _ j' a' w' rfl h2 h3 h4
    ·rename_i hid
     injection h with h;subst h
     refine⟨g1,fun ro hro j w a hs Q hQ=>wpIn_block (g2 ro hro j w a hs _ ?_)⟩
     intro e j' a' w' h1 h2 h3 h4
     cases h1
     simp only[Exit.inBlock,hid,if_false]
     exact hQ _ j' a' w' rfl h2 h3 h4
   ·rename_i hne
    obtain⟨⟨g1,g2⟩,_⟩:=ih _ _ _ h
    refine⟨g1,fun ro hro j w a hs Q hQ=>wpIn_block (g2 ro hro j w a hs _ ?_)⟩
    intro e j' a' w' h1 h2 h3 h4
    have:=hQ e j' a' w' h1 h2 h3 h4
    obtain⟨r1,r2⟩:=r
    cases r1 with
    |exit id'=>exact absurd h (hne id' _)
    |normal=>cases h1;exact this
    |ret=>cases h1;exact this
    |pan x=>obtain⟨v,rfl,_⟩:=h1;exact this
  |loop c=>
   have key:s.H.next<=r.2.H.next∧SoundLoop P rd n c s r:=by
    simp only at h
    split at h
    ·rename_i s' he
     obtain⟨⟨g1,g2⟩,_⟩:=ih _ _ _ he
     obtain⟨⟨g3,_⟩,g4⟩:=ih _ _ _ h
     refine⟨Nat.le_trans g1 g3,fun ro hro j w a hs Q hQ=>LoopAt.round (g2 ro hro j w a hs _ ?_)⟩
     intro e j' a' w' h1 h2 h3 h4
     cases h1
     exact g4 c rfl ro hro j' w' a' h2 Q fun e j2 a2 w2 k1 k2 k3 k4=>hQ e j2 a2 w2 k1 k2 (h3.trans k3) (h4.trans k4 g1)
    ·rename_i hne
     obtain⟨⟨g1,g2⟩,_⟩:=ih _ _ _ h
     refine⟨g1,fun ro hro j w a hs Q hQ=>LoopAt.round (g2 ro hro j w a hs _ ?_)⟩
     intro e j' a' w' h1 h2 h3 h4
     refine then_other ?_ (hQ e j' a' w' h1 h2 h3 h4)
     refine not_normal h1 fun u hu=> ?_
     injection hu with hu _
     obtain⟨r1,r2⟩:=r
     simp only at hu;subst hu
     exact hne _ h
   exact⟨⟨key.1,fun ro hro j w a hs Q hQ=>(key.2 ro hro j w a hs Q hQ).wp⟩,fun c' hc=>by cases hc;exact key.2⟩
  |region id ops draw=>
   refine⟨?_,fun _ h=>by cases h⟩
   cases draw with
   |false=>
    simp only at h
    obtain⟨g1,g2⟩:=evOps_ok T C Y rd n hC hY ops.toList 0 (by simp) s r h
    refine⟨g1,fun ro hro j w a hs Q hQ=>wpIn_region ?_⟩
    have:=g2 ro hro j w a hs (Q .normal) Q (fun e j' a' w' h1 h2 h3 h4=>by
     have:=hQ e j' a' w' h1 h2 h3 h4
     cases e<;>exact this)
    have hq:(fun e a w=>Exit.then (Q .normal) Q e a w)=Q:=by
     funext e a w;cases e<;>rfl
    simp only at this
    rw[hq,Nat.sub_zero,<-List.range_eq_range']at this
    exact this
   |true=>exact hD.sound h
  |rangeFunc f ps assign body=>
   refine⟨?_,fun _ h=>by cases h⟩
   cases rd with
   |true=>cases h
   |false=>exact range_ok C n hC h
  |_=>cases h
def ienv:Nat->List IV->Env->Env
 |_,[],e=>e
 |i,x::xs,e=>ienv (i+1) xs (e.set 40 i (some x))
theorem ienv_get:∀ (xs:List IV)(i:Nat)(e:Env)(t:Nat)(x:IV),(ienv i xs e).get t=some x->(∃k,k<xs.length∧t=i+k∧xs[k]? =some x)∨e.get t=some x:=by
 intro xs
 induction xs with
 |nil=>intro i e t x h;exact .inr h
 |cons y ys ih=>
  intro i e t x h
  simp only[ienv]at h
  rcases ih _ _ _ _ h with⟨k,h1,h2,h3⟩ |h
  ·exact .inl ⟨k+1,by simp;omega,by omega,by simpa using h3⟩
  ·rcases Trie.get_set _ _ _ _ _ _ h with⟨rfl,h1⟩ |⟨_,h2⟩
   ·exact .inl ⟨0,by simp,rfl,by simpa using h1⟩
   ·exact .inr h2
theorem ienv_ok{j:J}{w:World}{xs:List IV}{vs:Array Value}(h:VRs j w xs vs)(m:Nat):EnvR j w (ienv 0 xs .leaf) (vs++Array.replicate m undef):=by
 intro t x ht
 rcases ienv_get _ _ _ _ _ ht with⟨k,h1,h2,h3⟩ |h0
 ·have ht':t=k:=by omega
  subst ht'
  have hx:xs[t]=x:=by rw[List.getElem?_eq_getElem h1]at h3;injection h3
  have h1':t<vs.size:=by rw[h.1];exact h1
  refine⟨by rw[Array.size_append];omega,?_⟩
  have:=h.2 t h1
  rw[hx]at this
  rw[Array.getD_eq_getD_getElem?,Array.getElem?_append_left h1',<-Array.getD_eq_getD_getElem?]
  exact this
 ·cases h0
def iresult(env:Env)(H:IHeap):ResultVar->Option IV
 | .tmp t=>some ((env.get t).getD .junk)
 | .cell a t=>iload T H t ((env.get a).getD .junk)
def iresultsL(env:Env)(H:IHeap):List ResultVar->Option (List IV)
 | []=>some []
 |r::rs=>
  match iresult T env H r,iresultsL env H rs with
  |some x,some xs=>some (x::xs)
  |_,_=>none
def iresults(env:Env)(H:IHeap)(rs:List ResultVar):Option IV:=
 match iresultsL T env H rs with
 |some [x]=>some x
 |some xs=>some (.tup xs)
 |none=>none
theorem get_junk{j:J}{w:World}{env:Env}{tmps:Array Value}(h:EnvR j w env tmps)(t:Nat):VR j w ((env.get t).getD .junk) (tmps.getD t undef):=by
 cases ht:env.get t with
 |none=>exact .junk _
 |some x=>exact(h t x ht).2
theorem load_var{H:IHeap}{t:TypeId}{p r:IV}(h:iload T H t p=some r){j:J}{w:World}(hs:Sim j H w){v:Value}(hv:VR j w p v):
 ∃u,((do loadVar t (<-asAddr v)):Sem Value).run P w=.ok u w∧VR j w r u:=by
 obtain⟨u,h1,h2⟩:=iload_ok T h hs hv
 refine⟨u,?_,h2⟩
 unfold iload at h
 split at h
 ·cases hv
  simpa[Instr.loadAt,Instr.sureAddr,asAddr]using h1
 ·cases hv
  simpa[Instr.loadAt,Instr.sureAddr,asAddr]using h1
 ·cases hv
  simpa[Instr.loadAt,Instr.sureAddr,asAddr]using h1
 ·cases h
theorem iresults_ok{env:Env}{H:IHeap}{rs:List ResultVar}{x:IV}(h:iresults T env H rs=some x){j:J}{w:World}{tmps:Array Value}(he:EnvR j w env tmps)(hs:Sim j H w)
 {fn:Func} (hf:fn.results.toList=rs):∃ v,(results fn tmps).run P w=.ok v w∧VR j w x v:=by
 let g:ResultVar->Sem Value:=fun
  | .tmp t=>pure (tmps.getD t undef)
  | .cell a t=>do loadVar t (<-asAddr (tmps.getD a undef))
 have one:∀ r y,iresult T env H r=some y->∃ u,(g r).run P w=.ok u w∧VR j w y u:=by
  intro r y hr
  cases r with
  |tmp t=>simp only[iresult]at hr;injection hr with hr;subst hr;exact⟨_,by simp[g],get_junk he t⟩
  |cell a t=>exact load_var T hr hs (get_junk he a)
 have many:∀ (rs:List ResultVar) (ys:List IV),iresultsL T env H rs=some ys->∃ us:List Value,(rs.mapM g).run P w=.ok us w∧us.length=ys.length∧∀ k (hk:k<ys.length) (hk':k<us.length),VR j w ys[k] us[k]:=by
  intro rs
  induction rs with
  |nil=>intro ys h;simp only[iresultsL]at h;injection h with h;subst h;exact⟨[],by simp,rfl,fun k hk=>by simp at hk⟩
  |cons r rs ih=>
   intro ys h
   simp only[iresultsL]at h
   split at h
   ·rename_i y ys' h1 h2
    injection h with h;subst h
    obtain⟨u,u1,u2⟩:=one _ _ h1
    obtain⟨us,v1,v2,v3⟩:=ih _ h2
    refine⟨u::us,by simp[u1,v1],by simp[v2],fun k hk hk'=> ?_⟩
    cases k with
    |zero=>exact u2
    |succ k=>exact v3 k (by simpa using hk) (by simpa using hk')
   ·cases h
 unfold iresults at h
 have hrun:∀ us:List Value,(rs.mapM g).run P w=.ok us w->(results fn tmps).run P w=.ok (if h:us.toArray.size=1 then us.toArray[0]else .tuple us.toArray) w:=by
  intro us hus
  have:(fn.results.mapM g).run P w=.ok us.toArray w:=by
   rw[Array.mapM_eq_mapM_toList,hf];simp[hus]
  show ((do let vs<-fn.results.mapM g;pure (if h:vs.size=1 then vs[0]else .tuple vs)):Sem Value).run P w=_
  simp only[Sem.run_bind,this,Result.andThen_ok,Sem.run_pure]
 split at h
 ·rename_i y hy
  injection h with h;subst h
  obtain⟨us,h1,h2,h3⟩:=many _ _ hy
  match us,h2 with
  | [u],_=>exact⟨u,by rw[hrun _ h1];rfl,h3 0 (by simp) (by simp)⟩
 ·rename_i ys hne hy
  injection h with h;subst h
  obtain⟨us,h1,h2,h3⟩:=many _ _ hy
  have hl:us.length≠1:=by
   intro hl
   rw[h2]at hl
   match ys,hl with
   | [y],_=>exact hne y rfl
  refine⟨.tuple us.toArray,by rw[hrun _ h1];rw[dif_neg (by simpa using hl)],.tup (by simp[h2]) (fun k hk=> ?_)⟩
  have hk':k<us.length:=by omega
  have:=h3 k hk hk'
  simpa[hk']using this
 ·cases h
end
end Go.Eng
namespace Go.Eng
open Go.RowKit
variable [Far]
inductive IMode where
 |ret
 |pan (x:IV)
 |recd
 deriving Inhabited
def ModeR(j:J)(w:World):IMode->FrameMode->Prop
 | .ret,u=>u=.returning
 | .pan x,u=>∃ v,u=.panicking [{v,recovered:=false}]∧VR j w x v
 | .recd,u=>∃ v,u=.panicking [{v,recovered:=true}]
theorem ModeR.mono{j j':J}{w w':World}{m:IMode}{u:FrameMode}(h:ModeR j w m u)(e:Ext j w j' w'):ModeR j' w' m u:=by
 cases m with
 |ret=>exact h
 |pan x=>obtain⟨v,h1,h2⟩:=h;exact⟨v,h1,h2.mono e⟩
 |recd=>exact h
def isettle:IMode->IMode
 | .recd=>.ret
 |m=>m
theorem isettle_ok{j:J}{w:World}{m:IMode}{u:FrameMode}(h:ModeR j w m u):ModeR j w (isettle m) (settle u):=by
 cases m with
 |ret=>rw[show u=.returning from h];rfl
 |pan x=>obtain⟨v,rfl,hv⟩:=h;exact⟨v,rfl,hv⟩
 |recd=>obtain⟨v,rfl⟩:=h;rfl
abbrev DOracle:=FuncId->List IV->IMode->IHeap->Option (IMode×IHeap)
def DCallR(P:Program)(g:FuncId)(xs:List IV)(m:IMode)(H:IHeap)(m':IMode)(H':IHeap):Prop:=
 Enters P g∧H.next<=H'.next∧∀ (j:J) (w:World) (vs:Array Value) (u:FrameMode),Sim j H w->VRs j w xs vs->ModeR j w m u->
  CallsDIn Fence.wide 0 P g vs u w fun e u' w'=>(∃v,e=.returned v)∧∃ j',Sim j' H' w'∧Ext j w j' w'∧Stay H.next j j'∧ModeR j' w' m' u'
def DCallOk(P:Program)(O:DOracle):Prop:=∀ g xs m H m' H',O g xs m H=some (m',H')->DCallR P g xs m H m' H'
section
variable {P:Program}(T:TO P)(C:Oracle)(Y:YOracle)(D:Draws)(n:Nat)
def isRecover:Op->Bool
 | .call {callee:=.builtin .recover,..}=>true
 |_=>false
theorem isRecover_run{o:Oper}(h:isRecover o.op=true)(ρ:Operand->Value)(w:World):(execOp ρ o).run P w=.ok .recover w:=by
 unfold isRecover at h
 split at h
 ·rename_i args ats hop
  unfold execOp;rw[hop]
  simp[resolve,invoke,builtin]
 ·cases h
def evOpW(ops:Array Oper)(o:Oper)(s:IState):Option (IOut×IState):=
 match iwanted ops o s.env with
 |none=>none
 |some false=>(putI n o.dst (.tup []) s).map (Prod.mk .normal)
 |some true=>evDoW T C false n o s
theorem evOpW_ok(hC:CallOk P C){ops:Array Oper}{i:Nat}{o:Oper}(ho:ops[i]? =some o){s:IState}{r:IOut×IState}(h:evOpW T C n ops o s=some r):
 OpOkW n P s r (fun K Q a w=>wpOp P ops Q i K a w):=by
 unfold evOpW at h
 split at h
 ·cases h
 ·rename_i hw
  obtain⟨s',hp,rfl⟩:=Option.map_eq_some_iff.1 h
  refine⟨by rw[put_H n hp];exact Nat.le_refl _,fun j w a hs K Q hK=> ?_⟩
  have hw':=iwanted_ok hw hs.env
  show wpOp P ops Q i K a w
  simp only[wpOp,ho,hw',Bool.false_eq_true,if_false]
  obtain⟨h1,h2⟩:=putI_ok hp hs (undef_ok j w)
  exact hK .normal j _ w rfl h1 (Ext.refl _ _) (Stay.refl _ _)
 ·rename_i hw
  obtain⟨⟨hle,hd⟩,_⟩:=evDoW_ok T C false n hC h
  refine⟨hle,fun j w a hs K Q hK=> ?_⟩
  have hw':=iwanted_ok hw hs.env
  show wpOp P ops Q i K a w
  simp only[wpOp,ho,hw',if_true]
  exact .inl (hd j w a hs K Q hK)
def evOpsS(ops:Array Oper):List Oper->IState->IMode->Option (IOut×IState×IMode)
 | [],s,u=>some (.normal,s,u)
 |o::l,s,u=>
  if isRecover o.op then
   (match iwanted ops o s.env with
   |some true=>
    (match u with
    | .pan x=>(match putI n o.dst x s with |some s'=>evOpsS ops l s' .recd |none=>none)
    |u=>(match putI n o.dst (.sc .nilIface) s with |some s'=>evOpsS ops l s' u |none=>none))
   |_=>none)
  else
  match evOpW T C n ops o s with
  |some (.normal,s')=>evOpsS ops l s' u
  |some (.pan x,s')=>some (.pan x,s',u)
  |_=>none
def SoundS(P:Program)(n:Nat)(run:(Exit->Act->List Frame->World->Prop)->Act->List Frame->World->Prop)(s:IState)(u:IMode)(r:IOut×IState×IMode):Prop:=
 s.H.next<=r.2.1.H.next∧∀ (j:J) (w:World) (a:Act) (c₀ :Frame) (cs:List Frame),SR n j s a w->ModeR j w u c₀.mode->
  ∀Q:Exit->Act->List Frame->World->Prop,(∀e j' a' w' md,ExitR j' w' r.1 e->SR n j' r.2.1 a' w'->Ext j w j' w'->Stay s.H.next j j'->ModeR j' w' r.2.2 md->Q e a' ({c₀ with mode:=md}::cs) w')->
  run Q a (c₀ ::cs) w
theorem recoverD_pan{c₀ :Frame}{cs:List Frame}{v:Value}(h:c₀.mode=.panicking [{v,recovered:=false}]):
 recoverD (c₀ ::cs)=some (v,{c₀ with mode:=.panicking [{v,recovered:=true}]}::cs):=by
 simp[recoverD,h]
theorem recoverD_ret{c₀ :Frame}{cs:List Frame}(h:c₀.mode=.returning):recoverD (c₀ ::cs)=none:=by
 simp[recoverD,h]
theorem recoverD_rec{c₀ :Frame}{cs:List Frame}{v:Value}(h:c₀.mode=.panicking [{v,recovered:=true}]):recoverD (c₀ ::cs)=none:=by
 simp[recoverD,h]
theorem wpOpsS_of{ops:Array Oper}{i:Nat}{rest:List Nat}{Q:Exit->Act->List Frame->World->Prop}{cs:List Frame}{a:Act}{w:World}
 (h:wpOp P ops (fun e a w=>Q e a cs w) i (fun a w=>wpOpsS P ops Q rest a cs w) a w) (hno:¬ LetsOut (fun e a w=>Q e a cs w)∨True) (hl:∀ o,ops[i]? =some o->Region.wanted o (yielded ops a.tmps)=true->o.wp P a w (fun a w=>wpOpsS P ops Q rest a cs w) (fun e a w=>Q e a cs w)):
 wpOpsS P ops Q (i::rest) a cs w:=by
 unfold wpOp at h
 simp only[wpOpsS]
 split
 ·rename_i ho;rw[ho]at h;exact h
 ·rename_i o ho
  rw[ho]at h
  simp only at h
  split
  ·rename_i hw
   have:=hl o ho hw
   unfold Oper.wp at this
   split
   ·rename_i w' hr;rw[hr]at this;exact this.elim
   ·exact this
  ·rename_i hw
   rw[if_neg hw]at h
   exact h
theorem evOpsS_ok(hC:CallOk P C){ops:Array Oper}:∀ (l:List Oper)(k:Nat),ops.toList.drop k=l->∀ (s:IState)(u:IMode)(r:IOut×IState×IMode),evOpsS T C n ops l s u=some r->
 SoundS P n (fun Q a cs w=>wpOpsS P ops Q (List.range' k (ops.size - k)) a cs w) s u r:=by
 intro l
 induction l with
 |nil=>
  intro k hk s u r h
  simp only[evOpsS]at h
  injection h with h;subst h
  have:ops.size - k=0:=by have:=congrArg List.length hk;simp at this;exact this
  refine⟨Nat.le_refl _,fun j w a c₀ cs hs hm Q hQ=> ?_⟩
  show wpOpsS P ops Q (List.range' k (ops.size - k)) a (c₀ ::cs) w
  rw[this]
  exact hQ .normal j a w _ rfl hs (Ext.refl _ _) (Stay.refl _ _) hm
 |cons o l ih=>
  intro k hk s u r h
  have hlt:k<ops.size:=by have:=congrArg List.length hk;simp at this;omega
  have ho:ops[k]? =some o:=by
   have:(ops.toList.drop k)[0]? =some o:=by rw[hk];rfl
   simpa using this
  have hk':ops.toList.drop (k+1)=l:=by
   have:(ops.toList.drop k).drop 1=l:=by rw[hk];rfl
   rw[List.drop_drop]at this;exact this
  have hr:List.range' k (ops.size - k)=k::List.range' (k+1) (ops.size - (k+1)):=by
   have:ops.size - k=(ops.size - (k+1))+1:=by omega
   rw[this,List.range'_succ]
  simp only[evOpsS]at h
  split at h
  ·rename_i hrec
   split at h
   ·rename_i hw
    split at h
    ·rename_i x
     split at h
     ·rename_i s' hp
      obtain⟨g3,g4⟩:=ih (k+1) hk' s' _ r h
      refine⟨by rw[put_H n hp]at g3;exact g3,fun j w a c₀ cs hs hm Q hQ=> ?_⟩
      obtain⟨v,hm1,hm2⟩:=hm
      obtain⟨p1,p2⟩:=putI_ok hp hs hm2
      show wpOpsS P ops Q (List.range' k (ops.size - k)) a (c₀ ::cs) w
      rw[hr]
      simp only[wpOpsS,ho,iwanted_ok hw hs.env,if_true,isRecover_run hrec,recoverD_pan hm1]
      refine g4 j w _ _ cs p1 ⟨v,rfl⟩ Q ?_
      intro e j' a' w' md k1 k2 k3 k4 k5
      rw[p2]at k4
      exact hQ e j' a' w' md k1 k2 k3 k4 k5
     ·cases h
    ·rename_i hnp
     split at h
     ·rename_i s' hp
      obtain⟨g3,g4⟩:=ih (k+1) hk' s' _ r h
      refine⟨by rw[put_H n hp]at g3;exact g3,fun j w a c₀ cs hs hm Q hQ=> ?_⟩
      obtain⟨p1,p2⟩:=putI_ok hp hs (v:=.nilIface) (.sc rfl)
      have hnone:recoverD (c₀ ::cs)=none:=by
       cases u with
       |ret=>exact recoverD_ret hm
       |pan x=>exact absurd rfl (hnp x)
       |recd=>obtain⟨v,hm⟩:=hm;exact recoverD_rec hm
      show wpOpsS P ops Q (List.range' k (ops.size - k)) a (c₀ ::cs) w
      rw[hr]
      simp only[wpOpsS,ho,iwanted_ok hw hs.env,if_true,isRecover_run hrec,hnone]
      refine g4 j w _ _ cs p1 hm Q ?_
      intro e j' a' w' md k1 k2 k3 k4 k5
      rw[p2]at k4
      exact hQ e j' a' w' md k1 k2 k3 k4 k5
     ·cases h
   ·cases h
  ·split at h
   ·rename_i s' he
    obtain⟨g1,g2⟩:=evOpW_ok T C n hC ho he
    obtain⟨g3,g4⟩:=ih (k+1) hk' s' u r h
    refine⟨Nat.le_trans g1 g3,fun j w a c₀ cs hs hm Q hQ=> ?_⟩
    show wpOpsS P ops Q (List.range' k (ops.size - k)) a (c₀ ::cs) w
    rw[hr]
    have cont:∀ e j' a' w',ExitR j' w' IOut.normal e->SR n j' s' a' w'->Ext j w j' w'->Stay s.H.next j j'->Exit.then (fun a w=>wpOpsS P ops Q (List.range' (k+1) (ops.size - (k+1))) a (c₀ ::cs) w) (fun e a w=>Q e a (c₀ ::cs) w) e a' w':=by
     intro e j' a' w' he' hs' hx ht
     cases he'
     refine g4 j' w' a' c₀ cs hs' (hm.mono hx) Q ?_
     intro e j'' a'' w'' md k1 k2 k3 k4 k5
     exact hQ e j'' a'' w'' md k1 k2 (hx.trans k3) (ht.trans k4 g1) k5
    refine wpOpsS_of (g2 j w a hs _ _ cont) (.inr trivial) ?_
    intro o' ho' hw'
    rw[ho]at ho';injection ho' with ho';subst ho'
    unfold evOpW at he
    split at he
    ·cases he
    ·rename_i hw;rw[iwanted_ok hw hs.env]at hw';cases hw'
    ·exact(evDoW_ok T C false n hC he).1.2 j w a hs _ _ cont
   ·rename_i x s' he
    injection h with h;subst h
    obtain⟨g1,g2⟩:=evOpW_ok T C n hC ho he
    refine⟨g1,fun j w a c₀ cs hs hm Q hQ=> ?_⟩
    show wpOpsS P ops Q (List.range' k (ops.size - k)) a (c₀ ::cs) w
    rw[hr]
    have cont:∀ e j' a' w',ExitR j' w' (IOut.pan x) e->SR n j' s' a' w'->Ext j w j' w'->Stay s.H.next j j'->Exit.then (fun a w=>wpOpsS P ops Q (List.range' (k+1) (ops.size - (k+1))) a (c₀ ::cs) w) (fun e a w=>Q e a (c₀ ::cs) w) e a' w':=by
     intro e j' a' w' he' hs' hx ht
     have:=hQ e j' a' w' _ he' hs' hx ht (hm.mono hx)
     obtain⟨v,rfl,hv⟩:=he'
     exact this
    refine wpOpsS_of (g2 j w a hs _ _ cont) (.inr trivial) ?_
    intro o' ho' hw'
    rw[ho]at ho';injection ho' with ho';subst ho'
    unfold evOpW at he
    split at he
    ·cases he
    ·rename_i hw;rw[iwanted_ok hw hs.env]at hw';cases hw'
    ·exact(evDoW_ok T C false n hC he).1.2 j w a hs _ _ cont
   ·cases h
def steady(F:FTab):Op->Bool
 | .load .. | .move .. =>true
 | .call {callee:=.value (.func g),..}=>(F g).isSome
 |_=>false
theorem not_round{m:Sem Value}{w w':World}{l f tmps x y}:((do pure (Next.value (<-m))):Sem Next).run P w≠.ok (.round l f tmps x y) w':=by
 simp only[Sem.run_bind]
 cases m.run P w<;>simp[Result.andThen]
theorem steady_round{F:FTab}(hF:FTabOk P F){o:Oper}(h:steady F o.op=true){ρ:Operand->Value}(hρ:∀ f,ρ (.func f)=.func (.func f) #[] #[]){w w':World}{l f tmps x y}:(execOp ρ o).run P w≠.ok (.round l f tmps x y) w':=by
 obtain⟨dst,op,type,pos,after,guard⟩:=o
 unfold steady at h
 simp only at h
 split at h
 ·simp only[execOp];exact not_round
 ·simp[execOp]
 ·rename_i g _ _
  obtain⟨fi,hfi⟩:=Option.isSome_iff_exists.1 h
  have he:∀ args w,(callFunc g args).run P w=.ok (.enter g args) w:=(hF g fi hfi).1
  simp[execOp,resolve,hρ,Deferred.ofValue,invoke,he]
 ·cases h
theorem wp_of_wpIn{F:FTab}(hF:FTabOk P F){o:Oper}(h:steady F o.op=true){a:Act}{w:World}{K:Act->World->Prop}{Q:Exit->Act->World->Prop}(hw:o.wpIn (Wf none) 0 P a w K Q):o.wp P a w K Q:=by
 have hw:=hw.2
 have hw:o.uponIn (Wf none) 0 P a K Q ((execOp a.eval o).run P w):=hw
 have hn:=fun w' l f tmps x y=>steady_round (P:=P) hF h (ρ:=a.eval) (fun _=>rfl) (w:=w) (w':=w') (l:=l) (f:=f) (tmps:=tmps) (x:=x) (y:=y)
 unfold Oper.wp
 generalize (execOp a.eval o).run P w=r at hw hn ⊢
 cases r with
 |ok x w'=>
  cases x with
  |enter f args=>exact Calls.mono (callsIn_wide.1 hw.2) (fun e w he=>by cases e<;>exact he)
  |row row args=>exact Rows.mono (fun c cs=>let ⟨v,w',r,s⟩:=hw.2 c cs (room_wide _);⟨v,w',r,stepsIn_wide.1 s⟩) (fun _ _ he=>he)
  |round l f tmps x y=>exact absurd rfl (hn w' l f tmps x y)
  |_=>first |exact hw |exact hw.elim
 |halt x w'=>cases x<;>first |exact hw |exact hw.elim
def calmO(v:Value)(o:Oper):Oper:=if isRecover o.op then{o with op:=.move (.const v)}else o
def calm(v:Value)(ops:Array Oper):Array Oper:=ops.map (calmO v)
theorem calmO_facts(v:Value)(o:Oper):(calmO v o).dst=o.dst∧(calmO v o).after=o.after∧(calmO v o).guard=o.guard:=by
 unfold calmO;split<;>exact⟨rfl,rfl,rfl⟩
theorem calm_get(v:Value)(ops:Array Oper)(i:Nat):(calm v ops)[i]? =(ops[i]?).map (calmO v):=by simp[calm]
theorem calm_yielded(v:Value)(ops:Array Oper)(t:Array Value):yielded (calm v ops) t=yielded ops t:=by
 funext g
 unfold yielded
 rw[calm_get]
 cases ops[g]? <;>simp[(calmO_facts v _).1]
theorem calm_ready(v:Value)(ops:Array Oper)(listed:Array Bool):Region.ready .any (calm v ops) listed=Region.ready .any ops listed:=by
 unfold Region.ready
 have:(calm v ops).size=ops.size:=by simp[calm]
 rw[this]
 congr 1
 funext i
 rw[calm_get]
 cases ops[i]? <;>simp[(calmO_facts v _).2.1]
theorem calm_wanted(v:Value)(o:Oper)(y:Nat->Option Bool):Region.wanted (calmO v o) y=Region.wanted o y:=by
 unfold Region.wanted
 rw[(calmO_facts v o).2.2]
def okRec(F:FTab)(ops:Array Oper)(i0:Nat):Bool:=
 ops.toList.zipIdx.all fun(o,i)=>if isRecover o.op then Nat.beq i i0&&o.guard.isNone&&o.after.isEmpty else steady F o.op&& !Nat.beq i i0
theorem okRec_ok{F:FTab}{ops:Array Oper}{i0:Nat}(h:okRec F ops i0=true){i:Nat}{o:Oper}(ho:ops[i]? =some o):
 (isRecover o.op=true∧i=i0∧o.guard=none∧o.after= #[])∨(isRecover o.op=false∧steady F o.op=true∧i≠i0):=by
 unfold okRec at h
 rw[List.all_eq_true]at h
 have:=h (o,i) (by
  rw[List.mem_iff_getElem?]
  exact⟨i,by simp[List.getElem?_zipIdx,ho]⟩)
 simp only at this
 split at this
 ·rename_i hr
  simp only[Bool.and_eq_true]at this
  obtain⟨⟨h1,h2⟩,h3⟩:=this
  exact .inl ⟨hr,Nat.eq_of_beq_eq_true h1,by simpa using h2,by simpa using h3⟩
 ·rename_i hr
  simp only[Bool.and_eq_true]at this
  refine .inr ⟨by simpa using hr,this.1,?_⟩
  rintro rfl
  simp at this
theorem anyS{F:FTab}(hF:FTabOk P F){ops:Array Oper}{i0:Nat}(hok:okRec F ops i0=true)(hi0:i0<ops.size){v:Value}{c₀ c₁ :Frame}{cs:List Frame}
 (hrec:(recoverD (c₀ ::cs)=some (v,c₁ ::cs))∨(recoverD (c₀ ::cs)=none∧v=.nilIface∧c₁ =c₀)) {Q:Exit->Act->World->Prop} (hQ:∀ e a w,Q e a w->e=.normal):
 ∀(fuel:Nat) (l:List Nat) (listed:Array Bool) (a:Act) (w:World),listed.size=ops.size->Valid .any ops fuel listed l->wpOpsIn (Wf none) 0 P (calm v ops) Q l a w->
  wpOpsS P ops (fun e a cs' w=>Q e a w∧cs'=c₁ ::cs) l a ((if listed.getD i0 false then c₁ else c₀)::cs) w:=by
 have hdone:∀ (listed:Array Bool),listed.size=ops.size->Region.ready .any ops listed=[]->listed.getD i0 false=true:=by
  intro listed hs hr
  apply Classical.byContradiction
  intro hn
  have hlt:i0<listed.size:=by omega
  have:i0∈Region.ready .any ops listed:=by
   rw[mem_ready]
   refine⟨by simp[hlt]at hn ⊢;exact hn,ops[i0],Array.getElem?_eq_getElem hi0,fun e he=> ?_⟩
   rcases okRec_ok hok (Array.getElem?_eq_getElem hi0)with h |h
   ·rw[h.2.2.2]at he;simp at he
   ·exact absurd rfl h.2.2
  rw[hr]at this;cases this
 have hQno:∀ {e a w},e≠Exit.normal->Q e a w->False:=fun hne h=>hne (hQ _ _ _ h)
 intro fuel
 induction fuel with
 |zero=>
  intro l listed a w hsz hv h
  obtain⟨rfl,hr⟩:=hv
  simp only[wpOpsS]
  rw[if_pos (hdone listed hsz hr)]
  exact⟨h,rfl⟩
 |succ fuel ih=>
  intro l listed a w hsz hv h
  cases l with
  |nil=>
   simp only[wpOpsS]
   rw[if_pos (hdone listed hsz hv)]
   exact⟨h,rfl⟩
  |cons i l=>
   have hmem:=hv.1
   rw[wpOpsIn_cons]at h
   have hop:=h
   obtain⟨hl,o,ho,_⟩:=mem_ready.1 hmem
   have hlt:=(Array.getElem?_eq_some_iff.1 ho).1
   unfold wpOpIn at hop
   rw[calm_get,ho]at hop
   simp only[Option.map_some,calm_yielded,calm_wanted,(calmO_facts v o).1]at hop
   simp only[wpOpsS,ho]
   rcases okRec_ok hok ho with⟨hr,rfl,hg,_⟩ |⟨hr,hst,hne⟩
   ·have hw:Region.wanted o (yielded ops a.tmps)=true:=by unfold Region.wanted;rw[hg]
    rw[if_pos hw]at hop ⊢
    have hop:=hop.2
    have hop:wpOpsIn (Wf none) 0 P (calm v ops) Q l (a.put o.dst v) w:=by
     have e:(Oper.semAt none a.eval (calmO v o))=execOp a.eval {o with op:=.move (.const v)}:=by unfold calmO;rw[if_pos hr];rfl
     have e2:(execOp a.eval {o with op:=.move (.const v)}).run P w=.ok (.value v) w:=by simp[execOp,Act.eval]
     have hop:(calmO v o).uponIn (Wf none) 0 P a _ Q ((Oper.semAt none a.eval (calmO v o)).run P w):=hop
     rw[e,e2]at hop
     simpa[Oper.uponIn,(calmO_facts v o).1]using hop
    have hoff:listed.getD i false=false:=by
     have:i<listed.size:=by omega
     simp[this]at hl ⊢;exact hl
    have hon:(listed.setIfInBounds i true).getD i false=true:=by
     have:i<listed.size:=by omega
     simp[this]
    have hnext:=ih l (listed.setIfInBounds i true) (a.put o.dst v) w (by simp[hsz]) hv.2 hop
    rw[hon,if_pos rfl]at hnext
    simp only[isRecover_run hr,hoff,Bool.false_eq_true,if_false]
    rcases hrec with hrec |⟨hrec,rfl,rfl⟩
    ·simp only[hrec];exact hnext
    ·simp only[hrec];exact hnext
   ·have hcal:calmO v o=o:=by unfold calmO;rw[hr];rfl
    rw[hcal]at hop
    have hkeep:(listed.setIfInBounds i true).getD i0 false=listed.getD i0 false:=getD_set_ne false hne
    have hnext:∀ a w,wpOpsIn (Wf none) 0 P (calm v ops) Q l a w->
     wpOpsS P ops (fun e a cs' w=>Q e a w∧cs'=c₁ ::cs) l a ((if listed.getD i0 false then c₁ else c₀)::cs) w:=by
     intro a w h
     have:=ih l _ a w (by simp[hsz]) hv.2 h
     rw[hkeep]at this;exact this
    split
    ·rename_i hw
     rw[if_pos hw]at hop
     have hwp:=wp_of_wpIn hF hst hop
     have hup:o.upon P a (fun a' w'=>wpOpsS P ops (fun e a cs' w=>Q e a w∧cs'=c₁ ::cs) l a' ((if listed.getD i0 false then c₁ else c₀)::cs) w')
      (fun e a' w'=>Q e a' w'∧((if listed.getD i0 false then c₁ else c₀)::cs)=c₁ ::cs) ((execOp a.eval o).run P w):=by
      unfold Oper.wp at hwp
      generalize (execOp a.eval o).run P w=r at hwp ⊢
      cases r with
      |ok x w'=>
       cases x<;>simp only[Oper.upon]at hwp ⊢ <;>
        first
         |exact hnext _ _ hwp
         |exact Calls.mono hwp (fun e w'' he=>by
          cases e with
          |returned v=>exact hnext _ _ he
          |panicked ch=>exact(hQno (by simp) he).elim
          |outgrown=>obtain⟨a0,w0,h0⟩:=he;exact(hQno (by simp) h0).elim)
         |exact Rows.mono hwp (fun _ _ he=>hnext _ _ he)
      |halt x w'=>cases x<;>simp only[Oper.upon]at hwp ⊢ <;>exact(hQno (by simp) hwp).elim
     split
     ·rename_i w' hr';rw[hr']at hup;exact hup.elim
     ·exact hup
    ·rename_i hw
     rw[if_neg hw]at hop
     exact hnext _ _ hop.2
theorem wpOpsS_mono{ops:Array Oper}{Q Q':Exit->Act->List Frame->World->Prop}(h:∀ e a cs w,Q e a cs w->Q' e a cs w):∀ (l:List Nat)(a:Act)(cs:List Frame)(w:World),wpOpsS P ops Q l a cs w->wpOpsS P ops Q' l a cs w:=by
 intro l
 induction l with
 |nil=>intro a cs w hq;exact h _ _ _ _ hq
 |cons i rest ih=>
  intro a cs w hq
  simp only[wpOpsS]at hq ⊢
  split
  ·rename_i ho;rw[ho]at hq;exact ih _ _ _ hq
  ·rename_i o ho
   rw[ho]at hq
   simp only at hq
   split
   ·rename_i hw
    rw[if_pos hw]at hq
    split
    ·rename_i w' hr
     rw[hr]at hq
     simp only at hq
     split
     ·rename_i hrec;rw[hrec]at hq;exact ih _ _ _ hq
     ·rename_i hrec;rw[hrec]at hq;exact ih _ _ _ hq
    ·rename_i hr
     generalize (execOp a.eval o).run P w=r at hq hr ⊢
     cases r with
     |ok x w'=>
      cases x<;>simp only[Oper.upon]at hq ⊢ <;>
       first
        |exact ih _ _ _ hq
        |exact Calls.mono hq (fun e w'' he=>by
         cases e with
         |returned v=>exact ih _ _ _ he
         |panicked ch=>exact h _ _ _ _ he
         |outgrown=>obtain⟨a0,w0,h0⟩:=he;exact⟨a0,w0,h _ _ _ _ h0⟩)
        |exact Rows.mono hq (fun _ _ he=>ih _ _ _ he)
        |exact absurd rfl (hr _)
     |halt x w'=>cases x<;>simp only[Oper.upon]at hq ⊢ <;>first |exact h _ _ _ _ hq |exact hq
   ·rename_i hw
    rw[if_neg hw]at hq
    exact ih _ _ _ hq
theorem wpS_region_draw{id:Nat}{ops:Array Oper}{Q:Exit->Act->List Frame->World->Prop}{a:Act}{cs:List Frame}{w:World}
 (h:∀ t,wpOpsS P ops Q (Region.schedule (P.follows .mixedOrders) ops t) a cs w.drew):(Code.region id ops true).wpS P Q a cs w:=
 fun b k hb hr=>let ⟨e,a',cs',w',q,r⟩:=wp_opsS _ a cs _ (h _) b k hb hr;⟨e,a',cs',w',q,.of_steps (.one step_region_draw) r⟩
def recVal:IMode->Option (Value×IMode)
 | .pan (.sc v)=>some (v,.recd)
 | .pan (.iface t (.sc v))=>some (.iface t v,.recd)
 | .pan _=>none
 |u=>some (.nilIface,u)
theorem recVal_ok{u u':IMode}{v:Value}(h:recVal u=some (v,u')){j:J}{w:World}{c₀ :Frame}(hm:ModeR j w u c₀.mode)(cs:List Frame):
 ∃c₁ :Frame,((recoverD (c₀ ::cs)=some (v,c₁ ::cs))∨(recoverD (c₀ ::cs)=none∧v=.nilIface∧c₁ =c₀))∧∃ md,c₁ ={c₀ with mode:=md}∧∀ j' w',Ext j w j' w'->ModeR j' w' u' md:=by
 unfold recVal at h
 split at h
 ·injection h with h;injection h with h1 h2;subst h1;subst h2
  obtain⟨v',m1,m2⟩:=hm
  cases m2
  exact⟨_,.inl (recoverD_pan m1),_,rfl,fun _ _ _=>⟨_,rfl⟩⟩
 ·injection h with h;injection h with h1 h2;subst h1;subst h2
  obtain⟨v',m1,m2⟩:=hm
  cases m2 with |iface m2=>cases m2;exact⟨_,.inl (recoverD_pan m1),_,rfl,fun _ _ _=>⟨_,rfl⟩⟩
 ·cases h
 ·rename_i hne1 hne2 hne3
  injection h with h;injection h with h1 h2;subst h1;subst h2
  have hnone:recoverD (c₀ ::cs)=none:=by
   cases u with
   |ret=>exact recoverD_ret hm
   |pan x=>exact absurd rfl (hne3 x)
   |recd=>obtain⟨v,hm⟩:=hm;exact recoverD_rec hm
  exact⟨c₀,.inr ⟨hnone,rfl,rfl⟩,c₀.mode,rfl,fun _ _ hE=>hm.mono hE⟩
def evCodeS(F:FTab):Nat->Code->IState->IMode->Option (IOut×IState×IMode)
 |0,_,_,_=>none
 |k+1,c,s,u=>
  match c with
  | .seq a b=>
    (match evCodeS F k a s u with
    |some (.normal,s',u')=>evCodeS F k b s' u'
    |r=>r)
  | .cond c a b=>
    (match evalI s.env c with
    | .sc (.bool t)=>evCodeS F k (if t then a else b) s u
    |_=>none)
  | .region _ ops false=>evOpsS T C n ops ops.toList s u
  | .region id ops true=>
    (match ops.toList.findIdx? (fun o=>isRecover o.op)with
    |none=>(match evCode T C Y D false n k (.region id ops true) s with |some (o,s')=>some (o,s',u) |none=>none)
    |some i0=>
     (match recVal u with
     |some (v,u')=>
      if okRec F ops i0&&Nat.blt i0 ops.size then(match D n (calm v ops) s with |some (.normal,s')=>some (.normal,s',u') |_=>none)else none
     |none=>none))
  |c=>(match evCode T C Y D false n k c s with |some (o,s')=>some (o,s',u) |none=>none)
theorem evCodeS_ok{F:FTab}(hF:FTabOk P F)(hC:CallOk P C)(hY:YOk P Y)(hD:DrawsOk P D):∀ (k:Nat)(c:Code)(s:IState)(u:IMode)(r:IOut×IState×IMode),evCodeS T C Y D n F k c s u=some r->
 SoundS P n (fun Q a cs w=>c.wpS P Q a cs w) s u r:=by
 intro k
 induction k with
 |zero=>intro c s u r h;cases h
 |succ k ih=>
  intro c s u r h
  have plain:∀ {r:IOut×IState×IMode},(match evCode T C Y D false n k c s with |some (o,s')=>some (o,s',u) |none=>none)=some r->SoundS P n (fun Q a cs w=>c.wpS P Q a cs w) s u r:=by
   intro r h
   split at h
   ·rename_i o s' he
    injection h with h;subst h
    obtain⟨⟨g1,g2⟩,_⟩:=evCode_ok T C Y D false n hC hY hD k c s _ he
    refine⟨g1,fun j w a c₀ cs hs hm Q hQ=>wpS_of_wp (wpIn_wide.1 (g2 none (fun _=>rfl) j w a hs _ ?_))⟩
    intro e j' a' w' h1 h2 h3 h4
    exact hQ e j' a' w' c₀.mode h1 h2 h3 h4 (hm.mono h3)
   ·cases h
  simp only[evCodeS]at h
  split at h
  ·rename_i x y
   split at h
   ·rename_i s' u' he
    obtain⟨g1,g2⟩:=ih _ _ _ _ he
    obtain⟨g3,g4⟩:=ih _ _ _ _ h
    refine⟨Nat.le_trans g1 g3,fun j w a c₀ cs hs hm Q hQ=>wpS_seq (g2 j w a c₀ cs hs hm _ ?_)⟩
    intro e j' a' w' md h1 h2 h3 h4 h5
    cases h1
    refine g4 j' w' a' {c₀ with mode:=md} cs h2 h5 Q ?_
    intro e j2 a2 w2 md2 k1 k2 k3 k4 k5
    exact hQ e j2 a2 w2 md2 k1 k2 (h3.trans k3) (h4.trans k4 g1) k5
   ·rename_i hne
    obtain⟨g1,g2⟩:=ih _ _ _ _ h
    refine⟨g1,fun j w a c₀ cs hs hm Q hQ=>wpS_seq (g2 j w a c₀ cs hs hm _ ?_)⟩
    intro e j' a' w' md h1 h2 h3 h4 h5
    have hn:e≠.normal:=not_normal h1 fun u hu=>by
     injection hu with hu _
     obtain⟨r1,r2,r3⟩:=r
     simp only at hu;subst hu
     exact hne _ _ h
    have:=hQ e j' a' w' md h1 h2 h3 h4 h5
    cases e<;>first |exact absurd rfl hn |exact this
  ·rename_i x y z
   split at h
   ·rename_i t ht
    obtain⟨g1,g2⟩:=ih _ _ _ _ h
    refine⟨g1,fun j w a c₀ cs hs hm Q hQ=> ?_⟩
    have hv:=evalI_ok hs.env x
    rw[ht]at hv
    have hc:a.eval x=.bool t:=by
     cases hv':a.eval x<;>rw[hv']at hv<;>cases hv
     rfl
    exact wpS_cond hc (g2 j w a c₀ cs hs hm Q hQ)
   ·cases h
  ·rename_i id ops
   obtain⟨g1,g2⟩:=evOpsS_ok T C n hC ops.toList 0 (by simp) s u r h
   refine⟨g1,fun j w a c₀ cs hs hm Q hQ=>wpS_region ?_⟩
   have:=g2 j w a c₀ cs hs hm Q hQ
   simp only at this
   rw[Nat.sub_zero,<-List.range_eq_range']at this
   exact this
  ·rename_i id ops
   split at h
   ·exact plain h
   ·rename_i i0 hfi
    split at h
    ·rename_i v u' hv
     split at h
     ·rename_i hc
      rw[Bool.and_eq_true]at hc
      have hi0:i0<ops.size:=by simpa[Nat.blt_eq]using hc.2
      split at h
      ·rename_i s' hd
       injection h with h;subst h
       obtain⟨g1,g2⟩:=hD.2 _ _ _ _ hd
       refine⟨g1,fun j w a c₀ cs hs hm Q hQ=>wpS_region_draw fun t=> ?_⟩
       obtain⟨c₁,hrec,md,rfl,hmd⟩:=recVal_ok hv hm cs
       have hany:=g2 none j w a hs (fun e a' w'=>e=.normal∧Q .normal a' ({c₀ with mode:=md}::cs) w') (fun e j' a' w' h1 h2 h3 h4=>by
        cases h1
        exact⟨rfl,hQ .normal j' a' w' md rfl h2 h3 h4 (hmd _ _ h3)⟩)
       have hsz:(calm v ops).size=ops.size:=by simp[calm]
       rw[hsz]at hany
       have hval:=valid_linearise ops t
       have hany:=hany _ (Valid.congr (fun listed=>calm_ready _ _ _) _ _ _ hval)
       have hS:=anyS hF hc.1 hi0 hrec (fun e a w h=>h.1) ops.size _ _ a _ (by simp) hval hany
       have hrep:(Array.replicate ops.size false).getD i0 false=false:=by simp[hi0]
       rw[hrep]at hS
       simp only[Region.schedule,hD.1,Bool.true_or,if_true]
       refine wpOpsS_mono ?_ _ _ _ _ hS
       rintro e a' cs' w' ⟨⟨rfl,h1⟩,rfl⟩
       exact h1
      ·cases h
     ·cases h
    ·cases h
  ·exact plain h
def MarksTo(P:Program):List Deferred->World->World->Prop
 | [],w,w'=>w'=w
 |d::ds,w,w'=>∃ r w1,d.target=.collected r∧(Instr.takeDeferred r).run P w=.ok [] w1∧MarksTo P ds w1 w'
theorem marks_steps:∀ (ds:List Deferred)(w w':World)(fr:Frame)(cs:List Frame),fr.mode≠.run->fr.defers=ds->MarksTo P ds w w'->Steps P (lone fr cs w) (lone {fr with defers:=[]} cs w'):=by
 intro ds
 induction ds with
 |nil=>
  intro w w' fr cs hm hd h
  have h:w'=w:=h
  subst h
  have:({fr with defers:=[]}:Frame)=fr:=by rw[<-hd]
  rw[this];exact Steps.refl _ _
 |cons d ds ih=>
  intro w w' fr cs hm hd h
  obtain⟨r,w1,h1,h2,h3⟩:=h
  have s1:=step_collected (cs:=cs) hm hd h1 h2
  have s2:=ih w1 w' {fr with defers:=[]++ds} cs hm rfl h3
  exact Steps.trans (.one s1) s2
def bodyPostSM(P:Program)(fn:Func)(c₀ :Frame)(cs:List Frame)(R:Ending->FrameMode->World->Prop):Exit->Act->List Frame->World->Prop
 | .normal,a,cs',w | .ret,a,cs',w=>∃ w1 u',MarksTo P a.defers w w1∧cs'={c₀ with mode:=u'}::cs∧∃ v,(results fn a.tmps).run P w1=.ok v w1∧R (.returned v) u' w1
 |_,_,_,_=>False
theorem callsDIn_of_wpSM{f:FuncId}{fn:Func}{c:Code}{args:Array Value}{u:FrameMode}{w:World}{R:Ending->FrameMode->World->Prop}
 (hf:P.funcs[f]? =some fn) (hb:fn.body=some c)
 (h:∀ (c₀ :Frame) (cs:List Frame),c₀.mode=u->
  c.wpS P (bodyPostSM P fn c₀ cs R) {tmps:=args++Array.replicate (fn.ntmps - args.size) undef,defers:=[]} (c₀ ::cs) w):
 CallsDIn Fence.wide 0 P f args u w R:=by
 refine⟨trivial,fun c₀ cs hu _=> ?_⟩
 let b:Frame:={(default:Frame)with fn:=f,kind:=.deferred}
 have henter:Frame.enter P f args .deferred=
  b.at {tmps:=args++Array.replicate (fn.ntmps - args.size) undef,defers:=[]} [.code c]:=by
  simp[Frame.enter,Frame.at,hf,hb,b]
 obtain⟨e,a',cs',w',hq,harr⟩:=h c₀ cs hu b [] rfl rfl
 rw[<-henter]at harr
 cases e with
 |normal=>
  obtain⟨w1,u',hm,rfl,v,hr,hR⟩:=hq
  have st:=marks_steps a'.defers w' w1 {b.at a' []with mode:=.returning} ({c₀ with mode:=u'}::cs) (by simp) rfl hm
  exact⟨.returned v,u',w1,_,hR,comesIn_wide.2 (show Comes P _ _ (.returned v)from Steps.trans harr (Steps.trans (.one step_end) st)),rfl,rfl,rfl,rfl,fn,hf,hr⟩
 |ret=>
  obtain⟨w1,u',hm,rfl,v,hr,hR⟩:=hq
  obtain⟨todo,hs⟩:=harr
  have st:=marks_steps a'.defers w' w1 {b.at a' todo with mode:=.returning} ({c₀ with mode:=u'}::cs) (by simp) rfl hm
  exact⟨.returned v,u',w1,_,hR,comesIn_wide.2 (show Comes P _ _ (.returned v)from Steps.trans hs st),rfl,rfl,rfl,rfl,fn,hf,hr⟩
 |panic chain=>exact hq.elim
 |exit id=>exact hq.elim
 |goto l=>exact hq.elim
 |outgrown=>exact hq.elim
def evMarks:List IDef->IHeap->Option IHeap
 | [],H=>some H
 |d::ds,H=>
  match d.mark with
  |some b=>(match H.get b with |some .dfr=>evMarks ds (H.set b none) |_=>none)
  |none=>none
theorem mark_ok{j:J}{H:IHeap}{w:World}(hs:Sim j H w){d:IDef}{d':Deferred}(hd:DefR j w d d'){b:Nat}(hm:d.mark=some b)(hg:H.get b=some .dfr):
 ∃r w1,d'.target=.collected r∧(Instr.takeDeferred r).run P w=.ok [] w1∧Sim j (H.set b none) w1∧Ext j w j w1:=by
 unfold DefR at hd
 rw[hm]at hd
 obtain⟨B,h1,h2⟩:=hd
 obtain⟨_,h3⟩:=hs.live _ _ _ _ hg h2
 obtain⟨S1,E1⟩:=hs.setDead (o2:=.deferred none) hg h2 h3 (fun _ _ _ h=>by cases h)
 exact⟨B,_,h1,run_takeDeferred h3,S1,E1⟩
theorem evMarks_ok:∀ (ds:List IDef)(H H':IHeap),evMarks ds H=some H'->H'.next=H.next∧∀ (j:J)(w:World)(ds':List Deferred),DsR j w ds ds'->Sim j H w->
 ∃w',MarksTo P ds' w w'∧Sim j H' w'∧Ext j w j w':=by
 intro ds
 induction ds with
 |nil=>
  intro H H' h
  simp only[evMarks,Option.some.injEq]at h;subst h
  refine⟨rfl,fun j w ds' hd hs=> ?_⟩
  cases hd
  exact⟨w,rfl,hs,Ext.refl _ _⟩
 |cons d ds ih=>
  intro H H' h
  simp only[evMarks]at h
  split at h
  ·rename_i b hm
   split at h
   ·rename_i hg
    obtain⟨g1,g2⟩:=ih _ _ h
    refine⟨g1,fun j w ds' hd hs=> ?_⟩
    cases hd with
    |cons hd1 hd2=>
    obtain⟨r,w1,k1,k2,k3,k4⟩:=mark_ok (P:=P) hs hd1 hm hg
    obtain⟨w',m1,m2,m3⟩:=g2 j w1 _ (hd2.mono k4) k3
    exact⟨w',⟨r,w1,k1,k2,m1⟩,m2,k4.trans m3⟩
   ·cases h
  ·cases h
def evDef(F:FTab)(fuel:Nat):DOracle:=fun g xs u H=>
 match F g with
 |none=>none
 |some fi=>
  match evCodeS T C Y D (xs.length+(fi.ntmps - xs.length)) F fuel fi.body ⟨ienv 0 xs .leaf,[],H⟩ u with
  |some (.normal,s,u') |some (.ret,s,u')=>
   (match evMarks s.ds s.H with
   |some H1=>(match iresults T s.env H1 fi.results with |some _=>some (u',H1) |_=>none)
   |none=>none)
  |_=>none
theorem SR.init{j:J}{H:IHeap}{w:World}{xs:List IV}{vs:Array Value}(hs:Sim j H w)(h:VRs j w xs vs)(m:Nat):
 SR (xs.length+(m - xs.length)) j ⟨ienv 0 xs .leaf,[],H⟩ {tmps:=vs++Array.replicate (m - vs.size) undef,defers:=[]} w:=
 ⟨ienv_ok h _,by simp[h.1],.nil,hs⟩
theorem evDef_ok{F:FTab}(hF:FTabOk P F)(hC:CallOk P C)(hY:YOk P Y)(hD:DrawsOk P D)(fuel:Nat):DCallOk P (evDef T C Y D F fuel):=by
 intro g xs m H m' H' h
 unfold evDef at h
 split at h
 ·cases h
 ·rename_i fi hfi
  obtain⟨hen,fn,f1,f2,f3,f4⟩:=hF _ _ hfi
  have fin:∀ (o:IOut) (s:IState) (u':IMode),(o=.normal∨o=.ret)->evCodeS T C Y D (xs.length+(fi.ntmps - xs.length)) F fuel fi.body ⟨ienv 0 xs .leaf,[],H⟩ m=some (o,s,u')->
   (match evMarks s.ds s.H with
   |some H1=>(match iresults T s.env H1 fi.results with |some _=>some (u',H1) |_=>none)
   |none=>none)=some (m',H')->DCallR P g xs m H m' H':=by
   intro o s u' ho he h
   split at h
   ·rename_i H1 hmk
    split at h
    ·rename_i x hres
     injection h with h;injection h with h1 h2;subst h1;subst h2
     obtain⟨g1,g2⟩:=evCodeS_ok T C Y D _ hF hC hY hD _ _ _ _ _ he
     obtain⟨g3,g4⟩:=evMarks_ok (P:=P) _ _ _ hmk
     refine⟨hen,by rw[g3];exact g1,fun j w vs u hs hv hm=> ?_⟩
     refine callsDIn_of_wpSM f1 f2 fun c₀ cs hu=> ?_
     have hinit:=SR.init hs hv fn.ntmps
     rw[f3]at hinit ⊢
     refine g2 j w _ c₀ cs hinit (hu▸hm) _ ?_
     intro e j' a' w' md k1 k2 k3 k4 k5
     obtain⟨w1,m1,m2,m3⟩:=g4 j' w' a'.defers k2.ds k2.sim
     obtain⟨v,v1,v2⟩:=iresults_ok T hres (k2.env.mono m3) m2 f4
     rcases ho with rfl |rfl
     ·cases k1;exact⟨w1,md,m1,rfl,v,v1,⟨v,rfl⟩,j',m2,k3.trans m3,k4,k5.mono m3⟩
     ·cases k1;exact⟨w1,md,m1,rfl,v,v1,⟨v,rfl⟩,j',m2,k3.trans m3,k4,k5.mono m3⟩
    ·cases h
   ·cases h
  split at h
  ·rename_i s u' he;exact fin _ _ _ (.inl rfl) he h
  ·rename_i s u' he;exact fin _ _ _ (.inr rfl) he h
  ·cases h
def evLeave(O:DOracle)(env:Env)(rs:List ResultVar):List IDef->IMode->IHeap->Option (IRes×IHeap)
 | [],.ret,H=>(match iresults T env H rs with |some x=>some (.ret x,H) |none=>none)
 | [],.pan x,H=>some (.pan x,H)
 | [],.recd,_=>none
 |d::ds,u,H=>
  match d.mark with
  |some b=>(match H.get b with |some .dfr=>evLeave O env rs ds u (H.set b none) |_=>none)
  |none=>
   match O d.g d.args u H with
   |some (u',H')=>evLeave O env rs ds (isettle u') H'
   |none=>none
theorem evLeave_ok{O:DOracle}(hO:DCallOk P O){env:Env}{rs:List ResultVar}:∀ (ds:List IDef)(m:IMode)(H:IHeap)(r:IRes)(H':IHeap),evLeave T O env rs ds m H=some (r,H')->
 H.next<=H'.next∧∀ (j:J) (w:World) (tmps:Array Value) (ds':List Deferred) (u:FrameMode) (fn:Func),fn.results.toList=rs->EnvR j w env tmps->DsR j w ds ds'->Sim j H w->ModeR j w m u->
  ∀R:Ending->World->Prop,(∀e j' w',Sim j' H' w'->Ext j w j' w'->Stay H.next j j'->EndR j' w' r e->R e w')->LeavesInM Fence.wide 0 P fn tmps R ds' u w:=by
 intro ds
 induction ds with
 |nil=>
  intro m H r H' h
  cases m with
  |ret=>
   simp only[evLeave]at h
   split at h
   ·rename_i x hx
    injection h with h;injection h with h1 h2;subst h1;subst h2
    refine⟨Nat.le_refl _,fun j w tmps ds' u fn hf he hd hs hm R hR=> ?_⟩
    cases hd
    rw[show u=.returning from hm]
    obtain⟨v,v1,v2⟩:=iresults_ok T hx he hs hf
    exact⟨v,v1,hR _ j w hs (Ext.refl _ _) (Stay.refl _ _) v2⟩
   ·cases h
  |pan x=>
   simp only[evLeave]at h
   injection h with h;injection h with h1 h2;subst h1;subst h2
   refine⟨Nat.le_refl _,fun j w tmps ds' u fn hf he hd hs hm R hR=> ?_⟩
   cases hd
   obtain⟨v,rfl,hv⟩:=hm
   exact hR _ j w hs (Ext.refl _ _) (Stay.refl _ _) ⟨v,rfl,hv⟩
  |recd=>cases h
 |cons d ds ih=>
  intro m H r H' h
  have notrun:∀ {j:J} {w:World} {u:FrameMode},ModeR j w m u->u≠.run:=by
   intro j w u hm
   cases m with
   |ret=>rw[show u=.returning from hm];intro h;cases h
   |pan x=>obtain⟨v,rfl,_⟩:=hm;intro h;cases h
   |recd=>obtain⟨v,rfl⟩:=hm;intro h;cases h
  simp only[evLeave]at h
  split at h
  ·rename_i b hmk
   split at h
   ·rename_i hg
    obtain⟨g3,g4⟩:=ih _ _ _ _ h
    refine⟨g3,fun j w tmps ds' u fn hf he hd hs hm R hR=> ?_⟩
    cases hd with
    |cons hd1 hd2=>
    obtain⟨r0,w1,k1,k2,k3,k4⟩:=mark_ok (P:=P) hs hd1 hmk hg
    refine⟨notrun hm,.inl ⟨r0,w1,k1,k2,?_⟩⟩
    refine g4 j w1 tmps _ u fn hf (he.mono k4) (hd2.mono k4) k3 (hm.mono k4) R ?_
    intro e j3 w3 z1 z2 z3 z4
    exact hR e j3 w3 z1 (k4.trans z2) z3 z4
   ·cases h
  ·rename_i hmk
   split at h
   ·rename_i u' H1 ho
    obtain⟨hen,g1,g2⟩:=hO _ _ _ _ _ _ ho
    obtain⟨g3,g4⟩:=ih _ _ _ _ h
    refine⟨Nat.le_trans g1 g3,fun j w tmps ds' u fn hf he hd hs hm R hR=> ?_⟩
    cases hd with
    |cons hd1 hd2=>
    rename_i d' ds'
    unfold DefR at hd1
    rw[hmk]at hd1
    obtain⟨cap,t1,t2⟩:=hd1
    refine⟨notrun hm,.inr ⟨(fun h=>by simp[Fence.wide]at h),_,cap,d.g,d'.args++cap,t1,by rw[t1];exact hen _ _,fun _ _=>trivial,?_⟩⟩
    refine CallsDIn.mono (g2 j w _ u hs t2 hm) ?_
    rintro e u2 w2 ⟨⟨v,rfl⟩,j2,q1,q2,q3,q4⟩
    refine g4 j2 w2 tmps ds' (settle u2) fn hf (he.mono q2) (hd2.mono q2) q1 (isettle_ok q4) R ?_
    intro e j3 w3 z1 z2 z3 z4
    exact hR e j3 w3 z1 (q2.trans z2) (q3.trans z3 g1) z4
   ·cases h
def evFn(F:FTab)(fuel:Nat):Oracle:=fun g xs H=>
 match F g with
 |none=>none
 |some fi=>
  match evCode T C Y D false (xs.length+(fi.ntmps - xs.length)) fuel fi.body ⟨ienv 0 xs .leaf,[],H⟩with
  |some (.normal,s) |some (.ret,s)=>evLeave T (evDef T C Y D F fuel) s.env fi.results s.ds .ret s.H
  |some (.pan x,s)=>evLeave T (evDef T C Y D F fuel) s.env fi.results s.ds (.pan x) s.H
  |_=>none
theorem evFn_ok{F:FTab}(hF:FTabOk P F)(hC:CallOk P C)(hY:YOk P Y)(hD:DrawsOk P D)(fuel:Nat):CallOk P (evFn T C Y D F fuel):=by
 intro g xs H r H' h
 unfold evFn at h
 split at h
 ·cases h
 ·rename_i fi hfi
  obtain⟨hen,fn,f1,f2,f3,f4⟩:=hF _ _ hfi
  have fin:∀ (o:IOut) (s:IState) (m:IMode),evCode T C Y D false (xs.length+(fi.ntmps - xs.length)) fuel fi.body ⟨ienv 0 xs .leaf,[],H⟩=some (o,s)->
   evLeave T (evDef T C Y D F fuel) s.env fi.results s.ds m s.H=some (r,H')->(match o,m with | .normal,.ret | .ret,.ret=>True | .pan x,.pan y=>x=y |_,_=>False)->CallR P g xs H r H':=by
   intro o s m he h hm
   obtain⟨⟨g1,g2⟩,_⟩:=evCode_ok T C Y D false _ hC hY hD _ _ _ _ he
   obtain⟨g3,g4⟩:=evLeave_ok T (evDef_ok T C Y D hF hC hY hD fuel) _ _ _ _ _ h
   refine⟨hen,Nat.le_trans g1 g3,fun j w vs hs hv=> ?_⟩
   refine(callsIn_wide (n:=0)).1 (callsIn_of_wp_marks f1 f2 trivial ?_ rfl)
   have hinit:=SR.init hs hv fn.ntmps
   rw[f3]at hinit ⊢
   refine g2 none (fun _=>rfl) j w _ hinit _ ?_
   intro e j' a' w' k1 k2 k3 k4
   have go:∀ u,ModeR j' w' m u->LeavesInM Fence.wide 0 P fn a'.tmps (fun e w'=>∃ j',Sim j' H' w'∧Ext j w j' w'∧Stay H.next j j'∧EndR j' w' r e) a'.defers u w':=by
    intro u hmu
    refine g4 j' w' a'.tmps a'.defers u fn f4 k2.env k2.ds k2.sim hmu _ ?_
    intro e j2 w2 z1 z2 z3 z4
    exact⟨j2,z1,k3.trans z2,k4.trans z3 g1,z4⟩
   cases o with
   |normal=>cases m<;>simp only at hm;cases k1;exact go _ rfl
   |ret=>cases m<;>simp only at hm;cases k1;exact go _ rfl
   |pan x=>
    cases m<;>simp only at hm
    subst hm
    obtain⟨v,rfl,hv⟩:=k1
    exact go _ ⟨v,rfl,hv⟩
   |exit id=>cases m<;>simp only at hm
  split at h
  ·rename_i s he;exact fin _ _ .ret he h trivial
  ·rename_i s he;exact fin _ _ .ret he h trivial
  ·rename_i x s he;exact fin _ _ (.pan x) he h rfl
  ·cases h
def setParams:List Nat->List IV->Env->Env
 |p::ps,x::xs,e=>setParams ps xs (e.set 40 p (some x))
 |_,_,e=>e
theorem setParams_ok{j:J}{w:World}:∀ (ps:List Nat)(xs:List IV)(vs:List Value)(env:Env)(tmps:Array Value),vs.length=xs.length->(∀k (h:k<xs.length)(h':k<vs.length),VR j w xs[k] vs[k])->
 (∀p∈ps,p<tmps.size)->EnvR j w env tmps->EnvR j w (setParams ps xs env) ((ps.zip vs).foldl (fun tmps p=>tmps.setIfInBounds p.1 p.2) tmps)∧((ps.zip vs).foldl (fun tmps p=>tmps.setIfInBounds p.1 p.2) tmps).size=tmps.size:=by
 intro ps
 induction ps with
 |nil=>intro xs vs env tmps _ _ _ he;exact⟨by simpa[setParams]using he,by simp⟩
 |cons p ps ih=>
  intro xs vs env tmps hl hv hp he
  cases xs with
  |nil=>
   cases vs with
   |nil=>exact⟨by simpa[setParams]using he,by simp⟩
   |cons v vs=>simp at hl
  |cons x xs=>
   cases vs with
   |nil=>simp at hl
   |cons v vs=>
    simp only[List.zip_cons_cons,List.foldl_cons,setParams]
    have hpt:p<tmps.size:=hp p (by simp)
    have h0:=hv 0 (by simp) (by simp)
    have hput:EnvR j w (env.set 40 p (some x)) (tmps.setIfInBounds p v):=by
     have:=EnvR.put (a:={tmps:=tmps,defers:=[]}) he hpt h0
     simpa[Act.put]using this
    obtain⟨g1,g2⟩:=ih xs vs _ (tmps.setIfInBounds p v) (by simpa using hl) (fun k hk hk'=>hv (k+1) (by simpa using hk) (by simpa using hk')) (fun q hq=>by simpa using hp q (by simp[hq])) hput
    exact⟨g1,by rw[g2];simp⟩
def ijump:IOut->Option (Option Code)
 | .normal=>some none
 | .ret=>some (some .ret)
 | .exit id=>some (some (.exit id))
 | .pan _=>none
def evYield(fuel:Nat):YOracle:=fun b xs H=>
 match H.get b with
 |some (.loop .ready pend env m ps as bd dfr)=>
  if xs.length=ps.length∧ps.all (fun p=>Nat.blt p m)=true then
   (match evCode T C Y D true m fuel as ⟨setParams ps xs env,[],H⟩with
   |some (.normal,s1)=>
    (match s1.H.get b with
    |some (.loop .ready pend1 env1 m1 ps1 as1 bd1 dfr1)=>
     (match evCode T C Y D true m fuel bd {s1 with H:=s1.H.set b (some (.loop .busy pend1 env1 m1 ps1 as1 bd1 dfr1))}with
     |some (o,s2)=>
      (match ijump o,s2.H.get b with
      |some jump,some (.loop _ _ env2 m2 ps2 as2 bd2 dfr2)=>
       some (.sc (.bool jump.isNone),s2.H.set b (some (.loop (if jump.isNone then .ready else .done) jump env2 m2 ps2 as2 bd2 dfr2)))
      |_,_=>none)
     |none=>none)
    |_=>none)
   |_=>none)
  else none
 |_=>none
theorem Sim.setLoop{j:J}{H:IHeap}{w:World}(hs:Sim j H w){b B d:Nat}{st:LoopState}{pend:Option Code}{env:Env}{m:Nat}{ps:List Nat}{as bd:Code}{dfr:Nat}
 (hget:H.get b=some (.loop st pend env m ps as bd dfr)) (hj:j b=some (B,d)) (st':LoopState) (pend':Option Code):
 ∃r:Loop,w.heap[B]? =some (.loop r)∧r.state=st∧r.pending=pend∧r.params.toList=ps∧r.assign=as∧r.body=bd∧m<=r.tmps.size∧EnvR j w env r.tmps∧
  Sim j (H.set b (some (.loop st' pend' env m ps as bd dfr))) (w.putObj B (.loop {r with state:=st',pending:=pend'}))∧Ext j w j (w.putObj B (.loop {r with state:=st',pending:=pend'})):=by
 obtain⟨hd,r,l1,l2,l3,l4,l5,l6,l7,l8,l9⟩:=hs.live _ _ _ _ hget hj
 obtain⟨_,E⟩:=hs.setDead (o2:=.loop {r with state:=st',pending:=pend'}) hget hj l1 (fun _ _ _ h=>by cases h)
 refine⟨r,l1,l2,l3,l4,l5,l6,l7,l8,?_,E⟩
 refine hs.setAny hget hj E (by simp) (fun B' hne=>World.putObj_heap_other hne) ?_
 have hB:=hs.bound _ _ _ hj
 exact⟨hd,{r with state:=st',pending:=pend'},World.putObj_heap_same hB,rfl,rfl,l4,l5,l6,l7,l8.mono E,l9⟩
theorem evYield_ok(hC:CallOk P C)(hY:YOk P Y)(hD:DrawsOk P D)(fuel:Nat):YOk P (evYield T C Y D fuel):=by
 intro b xs H x H' h
 unfold evYield at h
 split at h
 ·rename_i pend env m ps as bd dfr hg
  split at h
  ·rename_i hlen
   obtain⟨hlen,hps⟩:=hlen
   split at h
   ·rename_i s1 he1
    split at h
    ·rename_i pend1 env1 m1 ps1 as1 bd1 dfr1 hg1
     split at h
     ·rename_i o s2 he2
      split at h
      ·rename_i jump st2 pend2 env2 m2 ps2 as2 bd2 dfr2 hj hg2
       injection h with h;injection h with h1 h2;subst h1;subst h2
       obtain⟨⟨a1,a2⟩,_⟩:=evCode_ok T C Y D true _ hC hY hD _ _ _ _ he1
       obtain⟨⟨c1,c2⟩,_⟩:=evCode_ok T C Y D true _ hC hY hD _ _ _ _ he2
       have a1:H.next<=s1.H.next:=a1
       have c1:s1.H.next<=s2.H.next:=c1
       refine⟨Nat.le_trans a1 c1,fun j w vs B hjb hs hv=> ?_⟩
       obtain⟨hd0,r,l1,l2,l3,l4,l5,l6,l7,l8,l9⟩:=hs.live _ _ _ _ hg hjb
       have hpl:r.params.size=ps.length:=by rw[<-l4];simp
       refine⟨r.fn,_,r.assign,r.body,run_yield l1 (by rw[hv.1,hlen,hpl]),?_⟩
       have htm:(r.params.zip vs).foldl (fun tmps (x:Tmp×Value)=>tmps.setIfInBounds x.1 x.2) r.tmps=(ps.zip vs.toList).foldl (fun tmps p=>tmps.setIfInBounds p.1 p.2) r.tmps:=by
        rw[<-Array.foldl_toList,Array.toList_zip,l4]
       obtain⟨p1,p2⟩:=setParams_ok (j:=j) (w:=w) ps xs vs.toList env r.tmps (by simpa using hv.1) (fun k hk hk'=>by
        have:=hv.2 k hk
        have hk2:k<vs.size:=by simpa using hk'
        simpa[Array.getD,hk2]using this) (fun p hp=>by
        have:=List.all_eq_true.1 hps p hp
        have:p<m:=by exact(Nat.blt_eq▸this:_<_)
        omega) l8
       refine roundIn_of_wpIn (F:=Fence.wide) (n:=0) trivial ?_
       rw[show (fun tmps (x:Tmp×Value)=>match x with |(t,a)=>tmps.setIfInBounds t a)=(fun(tmps:Array Value) (x:Tmp×Value)=>tmps.setIfInBounds x.1 x.2)from rfl,htm,l5]
       refine a2 (some B) (fun h=>by cases h) j w _ ⟨p1,by rw[p2];exact l7,.nil,hs⟩ _ ?_
       intro e j1 A1 w1 k1 k2 k3 k4
       cases k1
       have hjb1:j1 b=some (B,0):=k3.sub _ _ hjb
       obtain⟨r1,q1,q2,q3,q4,q5,q6,q7,q8,S1,E1⟩:=k2.sim.setLoop hg1 hjb1 .busy pend1
       refine⟨_,run_beginRound q1 q2,?_⟩
       have hr1:({r1 with state:=.busy}:Loop)={r1 with state:=.busy,pending:=pend1}:=by rw[<-q3]
       rw[hr1,l6]
       refine c2 (some B) (fun h=>by cases h) j1 _ A1 ⟨k2.env.mono E1,k2.size,k2.ds.mono E1,S1⟩ _ ?_
       intro e j2 A2 w2 z1 z2 z3 z4
       have hjb2:j2 b=some (B,0):=z3.sub _ _ hjb1
       obtain⟨r2,y1,y2,y3,y4,y5,y6,y7,y8,S2,E2⟩:=z2.sim.setLoop hg2 hjb2 (if jump.isNone then .ready else .done) jump
       have fin:∃ v w',(Instr.endRound B jump).run P w2=.ok v w'∧∃ j' v',Ending.returned v=Ending.returned v'∧Sim j' (s2.H.set b (some (.loop (if jump.isNone then .ready else .done) jump env2 m2 ps2 as2 bd2 dfr2))) w'∧Ext j w j' w'∧Stay H.next j j'∧VR j' w' (.sc (.bool jump.isNone)) v':=
        ⟨_,_,run_endRound jump y1,j2,_,rfl,S2,((k3.trans E1).trans z3).trans E2,fun q hq=>by rw[z4 q (by show q<s1.H.next;omega),k4 q hq],.sc rfl⟩
       cases o with
       |normal=>simp only[ijump,Option.some.injEq]at hj;subst hj;cases z1;exact fin
       |ret=>simp only[ijump,Option.some.injEq]at hj;subst hj;cases z1;exact fin
       |exit id=>simp only[ijump,Option.some.injEq]at hj;subst hj;cases z1;exact fin
       |pan x=>cases hj
      ·cases h
     ·cases h
    ·cases h
   ·cases h
  ·cases h
 ·cases h
end
def noY:YOracle:=fun _ _ _=>none
theorem noY_ok(P:Program):YOk P noY:=fun _ _ _ _ _ h=>by cases h
def evCY{P:Program}(T:TO P)(F:FTab)(D:Oracle->YOracle->Draws)(S:Oracle)(fuel:Nat):Nat->Oracle×YOracle
 |0=>(S,noY)
 |k+1=>
  (fun g xs H=>
   match S g xs H with
   |some r=>some r
   |none=>evFn T (evCY T F D S fuel k).1 (evCY T F D S fuel k).2 (D (evCY T F D S fuel k).1 (evCY T F D S fuel k).2) F fuel g xs H,
  evYield T (evCY T F D S fuel k).1 (evCY T F D S fuel k).2 (D (evCY T F D S fuel k).1 (evCY T F D S fuel k).2) fuel)
def evCall{P:Program}(T:TO P)(F:FTab)(D:Oracle->YOracle->Draws)(S:Oracle)(fuel k:Nat):Oracle:=(evCY T F D S fuel k).1
theorem evCY_ok{P:Program}(T:TO P){F:FTab}(hF:FTabOk P F){D:Oracle->YOracle->Draws}(hD:∀ C Y,CallOk P C->YOk P Y->DrawsOk P (D C Y)){S:Oracle}(hS:CallOk P S)(fuel:Nat):
 ∀k,CallOk P (evCY T F D S fuel k).1∧YOk P (evCY T F D S fuel k).2:=by
 intro k
 induction k with
 |zero=>exact⟨hS,noY_ok P⟩
 |succ k ih=>
  refine⟨fun g xs H r H' h=> ?_,evYield_ok T _ _ _ ih.1 ih.2 (hD _ _ ih.1 ih.2) fuel⟩
  simp only[evCY]at h
  split at h
  ·rename_i r1 hr1;injection h with h;subst h;exact hS _ _ _ _ _ hr1
  ·exact evFn_ok T _ _ _ hF ih.1 ih.2 (hD _ _ ih.1 ih.2) fuel _ _ _ _ _ h
theorem evCall_ok{P:Program}(T:TO P){F:FTab}(hF:FTabOk P F){D:Oracle->YOracle->Draws}(hD:∀ C Y,CallOk P C->YOk P Y->DrawsOk P (D C Y)){S:Oracle}(hS:CallOk P S)(fuel:Nat)(k:Nat):
 CallOk P (evCall T F D S fuel k):=(evCY_ok T hF hD hS fuel k).1
end Go.Eng
namespace Go.Eng
open Go.RowKit
def osame:IObj->IObj->Bool
 | .row xs,.row ys=>decide (xs.length=ys.length)&&(xs.zip ys).all (fun p=>same 20 p.1 p.2)
 |_,_=>false
theorem osame_ok{a b:IObj}(h:osame a b=true):a=b:=by
 unfold osame at h
 split at h
 ·simp only[Bool.and_eq_true,decide_eq_true_eq]at h
  rw[zip_same (same_ok 20) _ _ h.1 h.2]
 ·cases h
variable [Far]
inductive VOut where
 |val (x:IV)(H:IHeap)
 |pan (x:IV)(H:IHeap)
section
variable {P:Program}(T:TO P)(C:Oracle)(Y:YOracle)
def evStep(o:Oper)(env:Env)(H:IHeap):Option VOut:=
 match istep T H (evalI env) o with
 |some (.val x)=>some (.val x H)
 |some (.new ob f)=>some (.val (f H.next) (H.push ob))
 |some (.upd H' x)=>if H.next<=H'.next then some (.val x H')else none
 |none=>none
def evVal(o:Oper)(env:Env)(H:IHeap):Option VOut:=
 match kindOf o.op with
 | .call c=>
   (match iyield (evalI env) c with
   |some (b,xs)=>(match Y b xs H with |some (x,H')=>some (.val x H') |none=>none)
   |none=>
    (match icallee T (evalI env) c with
    |some (g,xs)=>
     (match C g xs H with
     |some (.ret x,H')=>some (.val x H')
     |some (.pan x,H')=>some (.pan x H')
     |none=>none)
    |none=>evStep T o env H))
 | .panic x=>
   (match evalI env x with
   | .iface t v=>some (.pan (.iface t v) H)
   |_=>none)
 |_=>evStep T o env H
def VOk(P:Program)(o:Oper)(env:Env)(H:IHeap)(r:VOut):Prop:=
 (match r with | .val _ H' | .pan _ H'=>H.next<=H'.next)∧
 ∀(ro:Option Nat) (j:J) (w:World) (a:Act),Sim j H w->(∀y∈o.op.operands,VR j w (evalI env y) (a.eval y))->∀ (K:Act->World->Prop) (Q:Exit->Act->World->Prop),
  (match r with
  | .val x H'=>∀ v j' w',Sim j' H' w'->Ext j w j' w'->Stay H.next j j'->VR j' w' x v->K (a.put o.dst v) w'
  | .pan x H'=>∀ v j' w',Sim j' H' w'->Ext j w j' w'->Stay H.next j j'->VR j' w' x v->Q (.panic [{v,recovered:=false}]) a w')->
  o.wpIn (Wf ro) 0 P a w K Q
theorem step_val{o:Oper}{env:Env}{H:IHeap}{r:VOut}
 (hr:evStep T o env H=some r):VOk P o env H r:=by
 unfold evStep at hr
 split at hr
 ·rename_i x hi
  have nd:=istep_nodefer T hi
  injection hr with hr;subst hr
  refine⟨Nat.le_refl _,fun ro j w a hs hρ K Q hK=>wpIn_of_wp (.inr nd) ?_⟩
  obtain⟨v,hv,hx⟩:=istep_ok T hi hs hρ
  unfold Oper.wp;rw[hv]
  exact hK v j w hs (Ext.refl _ _) (Stay.refl _ _) hx
 ·rename_i ob f hi
  have nd:=istep_nodefer T hi
  injection hr with hr;subst hr
  refine⟨by simp[IHeap.push],fun ro j w a hs hρ K Q hK=>wpIn_of_wp (.inr nd) ?_⟩
  obtain⟨v,w',hv,e1,e2,e3,e4,e5,e6⟩:=istep_ok T hi hs hρ
  have hβ:=hs.fresh _ (Nat.le_refl _)
  obtain⟨g1,g2⟩:=e6 _ hβ
  have hE:=Ext.new (d:=0) hβ e1 e2 e3 e4 e5
  have hS:=Sim.new (hs.push ob) hβ (by simp[IHeap.push]) (fun o' ho'=>by
   rcases IHeap.get_push ho' with⟨_,h⟩ |⟨h,_⟩
   ·exact h
   ·exact absurd rfl h) e1 e2 e3 e4 e5 g1
  unfold Oper.wp;rw[hv]
  exact hK v _ w' hS hE (Stay.put _ _ _) g2
 ·rename_i H' x hi
  have nd:=istep_nodefer T hi
  split at hr
  ·rename_i hle
   injection hr with hr;subst hr
   refine⟨hle,fun ro j w a hs hρ K Q hK=>wpIn_of_wp (.inr nd) ?_⟩
   obtain⟨w',v,j',hv,g1,g2,g3,g4⟩:=istep_ok T hi hs hρ
   unfold Oper.wp
   rcases hv with hv |⟨hv,rfl⟩
   ·rw[hv];exact hK v j' w' g1 g2 g4 g3
   ·rw[hv];exact hK undef j' w' g1 g2 g4 g3
  ·cases hr
 ·cases hr
theorem evVal_ok(hC:CallOk P C)(hY:YOk P Y){o:Oper}{env:Env}{H:IHeap}{r:VOut}(h:evVal T C Y o env H=some r):VOk P o env H r:=by
 unfold evVal at h
 split at h
 ·rename_i c hop
  have hop:=kindOf_call hop
  have nd:∀ d,o.op≠.defer d:=fun d hd=>by rw[hop]at hd;cases hd
  split at h
  ·rename_i b xs hy
   split at h
   ·rename_i x H' hyc
    obtain⟨hle,hc⟩:=hY _ _ _ _ _ hyc
    injection h with h;subst h
    refine⟨hle,fun ro j w a hs hρ K Q hK=>⟨fun _ _=>trivial,?_⟩⟩
    obtain⟨B,vs,hB,hargs,hrun⟩:=iyield_ok hy hop hρ (P:=P)
    show o.uponIn (Wf ro) 0 P a K Q ((o.semAt ro a.eval).run P w)
    rw[Oper.semAt_eq _ _ _ nd,hrun]
    obtain⟨fn,tmps,assign,body,y1,y2⟩:=hc j w vs B hB hs hargs
    rw[y1]
    refine⟨(fun h=>by simp[Fence.wide]at h),RoundIn.mono (F:=Wf ro) y2 ?_⟩
    rintro e w' ⟨j',v,rfl,q1,q2,q3,q4⟩
    exact hK v j' w' q1 q2 q3 q4
   ·cases h
  ·split at h
   ·rename_i g xs hcal
    split at h
    ·rename_i x H' hcall
     obtain⟨hen,hle,hc⟩:=hC _ _ _ _ _ hcall
     injection h with h;subst h
     refine⟨hle,fun ro j w a hs hρ K Q hK=>wpIn_of_wp (.inr nd) ?_⟩
     obtain⟨vs,hrun,hargs⟩:=icallee_ok T hcal hen hop hρ
     show Oper.upon P o a K Q ((execOp a.eval o).run P w)
     rw[hrun]
     refine(hc j w _ hs hargs).mono ?_
     rintro e w' ⟨j',q1,q2,q3,q4⟩
     cases e with
     |returned v=>exact hK v j' w' q1 q2 q3 q4
     |panicked ch=>exact q4.elim
     |outgrown=>exact q4.elim
    ·rename_i x H' hcall
     obtain⟨hen,hle,hc⟩:=hC _ _ _ _ _ hcall
     injection h with h;subst h
     refine⟨hle,fun ro j w a hs hρ K Q hK=>wpIn_of_wp (.inr nd) ?_⟩
     obtain⟨vs,hrun,hargs⟩:=icallee_ok T hcal hen hop hρ
     show Oper.upon P o a K Q ((execOp a.eval o).run P w)
     rw[hrun]
     refine(hc j w _ hs hargs).mono ?_
     rintro e w' ⟨j',q1,q2,q3,q4⟩
     cases e with
     |returned v=>exact q4.elim
     |panicked ch=>obtain⟨v,rfl,hv⟩:=q4;exact hK v j' w' q1 q2 q3 hv
     |outgrown=>exact q4.elim
    ·cases h
   ·exact step_val T h
 ·rename_i x hop
  have hop:=kindOf_panic hop
  split at h
  ·rename_i t v hx
   injection h with h;subst h
   refine⟨Nat.le_refl _,fun ro j w a hs hρ K Q hK=>wpIn_of_wp (.inr fun d hd=>by rw[hop]at hd;cases hd) ?_⟩
   have hv:=hρ x (by rw[hop];simp[Op.operands])
   rw[hx]at hv
   cases hfe:a.eval x<;>rw[hfe]at hv<;>cases hv
   rename_i u hu
   show Oper.upon P o a K Q ((execOp a.eval o).run P w)
   have:(execOp a.eval o).run P w=.halt (.panic (.iface t u)) w:=by
    unfold execOp;rw[hop]
    simp[hfe,Instr.panic,goPanic]
   rw[this]
   exact hK _ j w hs (Ext.refl _ _) (Stay.refl _ _) (.iface hu)
  ·cases h
 ·exact step_val T h
def isArrT(t:TypeId):Bool:=match T.und t with |some (.array _ _)=>true |_=>false
def noHeap:Op->Bool
 | .slice t .. => !isArrT T t
 | .binOp .eql t .. | .binOp .neq t .. => !isPtrT T t
 | .load .. | .lookup .. | .entry .. | .call .. | .convert .. | .range .. =>false
 |_=>true
theorem noHeap_ok0{o:Oper}(hn:noHeap T o.op=true){H H':IHeap}{ρ:Operand->IV}{x:IV}(h:istep0 T H ρ o=some (.val x)):istep0 T H' ρ o=some (.val x):=by
 obtain⟨dst,op,type,pos,after,guard⟩:=o
 cases op<;>simp only[istep0,armOf,noHeap,Bool.false_eq_true]at h hn ⊢ <;>(try exact h)<;>(try (cases hn;done))
 case binOp bop t x y yt=>
  have np:∀ (H:IHeap) a b,isPtrT T t=false->iptrEq T H t a b=none:=fun H a b hp=>by
   unfold isPtrT at hp
   unfold iptrEq
   split at hp
   ·cases hp
   ·rename_i hno
    split
    ·rename_i e _ _ _ _ he;exact absurd he (hno e)
    ·rfl
  cases bop<;>simp only[noHeap,Bool.not_eq_true']at hn<;>(try exact h)
  all_goals (simp only[np _ _ _ hn]at h ⊢;exact h)
 case slice t x lo hi mx=>
  split at h
  ·exfalso
   rename_i g o hx
   cases hs:isliceG T H t g o (lo.map ρ) (hi.map ρ) (mx.map ρ)with
   |none=>rw[hs]at h;cases h
   |some r=>
    unfold isliceG at hs
    unfold isArrT at hn
    split at hs
    ·rename_i ht;rw[ht]at hn;cases hn
    ·cases hs
  ·exact h
 case store t a v=>unfold Step.ofHeap at h;split at h<;>cases h
 case mapUpdate t m k v=>unfold Step.ofHeap at h;split at h<;>cases h
 case insert t m k v=>unfold Step.ofHeap at h;split at h<;>cases h
 case next it s=>unfold Step.ofUpd at h;split at h<;>cases h
theorem noHeap_new0{o:Oper}(hn:noHeap T o.op=true){H H':IHeap}{ρ:Operand->IV}{ob:IObj}{f:Nat->IV}(h:istep0 T H ρ o=some (.new ob f)):istep0 T H' ρ o=some (.new ob f):=by
 obtain⟨dst,op,type,pos,after,guard⟩:=o
 cases op<;>simp only[istep0,armOf,noHeap,Bool.false_eq_true]at h hn ⊢ <;>(try exact h)<;>(try (cases hn;done))
 case binOp bop t x y yt=>
  have np:∀ (H:IHeap) a b,isPtrT T t=false->iptrEq T H t a b=none:=fun H a b hp=>by
   unfold isPtrT at hp
   unfold iptrEq
   split at hp
   ·cases hp
   ·rename_i hno
    split
    ·rename_i e _ _ _ _ he;exact absurd he (hno e)
    ·rfl
  cases bop<;>simp only[noHeap,Bool.not_eq_true']at hn<;>(try exact h)
  all_goals (simp only[np _ _ _ hn]at h ⊢;exact h)
 case slice t x lo hi mx=>
  obtain⟨r,_,hr⟩:=Option.map_eq_some_iff.1 h
  cases hr
 case store t a v=>unfold Step.ofHeap at h;split at h<;>cases h
 case mapUpdate t m k v=>unfold Step.ofHeap at h;split at h<;>cases h
 case insert t m k v=>unfold Step.ofHeap at h;split at h<;>cases h
 case next it s=>unfold Step.ofUpd at h;split at h<;>cases h
theorem upd_only{o:Oper}(ho:(∃t m k x,o.op=.mapUpdate t m k x)∨(∃t m k x,o.op=.insert t m k x)∨∃ t a x,o.op=.store t a x){H:IHeap}{ρ:Operand->IV}{st:Step}(h:istep T H ρ o=some st):∃ H1 x,st=.upd H1 x:=by
 have key:∀ {x:Option IHeap} {st:Step},Step.ofHeap x=some st->∃ H1 x,st=.upd H1 x:=by
  intro x st hx
  unfold Step.ofHeap at hx
  split at hx
  ·injection hx with hx;exact⟨_,_,hx.symm⟩
  ·cases hx
 obtain⟨dst,op,type,pos,after,guard⟩:=o
 unfold istep at h
 rcases ho with⟨t,m,k,x,ho⟩ |⟨t,m,k,x,ho⟩ |⟨t,a,x,ho⟩<;>simp only at ho<;>subst ho
 ·split at h
  ·rename_i st' hf
   injection h with h;subst h
   unfold ifact at hf
   split at hf
   ·rename_i st2 hf2
    injection hf with hf;subst hf
    exact key hf2
   ·cases hf
  ·exact key h
 ·split at h
  ·rename_i st' hf
   injection h with h;subst h
   unfold ifact at hf
   split at hf
   ·rename_i st2 hf2
    injection hf with hf;subst hf
    exact key hf2
   ·cases hf
  ·exact key h
 ·split at h
  ·rename_i st' hf
   injection h with h;subst h
   exact key hf
  ·exact key h
theorem noHeap_fact{o:Oper}(hn:noHeap T o.op=true)(H H':IHeap)(ρ:Operand->IV):((∃t m k x,o.op=.mapUpdate t m k x)∨(∃t m k x,o.op=.insert t m k x)∨∃ t a x,o.op=.store t a x)∨ifact T H ρ o=ifact T H' ρ o:=by
 obtain⟨dst,op,type,pos,after,guard⟩:=o
 cases op<;>simp only[noHeap,Bool.false_eq_true]at hn<;>first
  |exact .inr rfl
  |exact .inl (.inl ⟨_,_,_,_,rfl⟩)
  |exact .inl (.inr (.inl ⟨_,_,_,_,rfl⟩))
  |exact .inl (.inr (.inr ⟨_,_,_,rfl⟩))
theorem noHeap_ok{o:Oper}(hn:noHeap T o.op=true){H H':IHeap}{ρ:Operand->IV}{x:IV}(h:istep T H ρ o=some (.val x)):istep T H' ρ o=some (.val x):=by
 rcases noHeap_fact T hn H H' ρ with h1 |h1
 ·obtain⟨H1,y,h2⟩:=upd_only T h1 h;cases h2
 ·cases hf:ifact T H ρ o with
  |none=>rw[istep_of T hf]at h;rw[istep_of T (h1▸hf)];exact noHeap_ok0 T hn h
  |some st=>unfold istep at h ⊢;rw[hf]at h;rw[<-h1,hf];exact h
theorem noHeap_new{o:Oper}(hn:noHeap T o.op=true){H H':IHeap}{ρ:Operand->IV}{ob:IObj}{f:Nat->IV}(h:istep T H ρ o=some (.new ob f)):istep T H' ρ o=some (.new ob f):=by
 rcases noHeap_fact T hn H H' ρ with h1 |h1
 ·obtain⟨H1,y,h2⟩:=upd_only T h1 h;cases h2
 ·cases hf:ifact T H ρ o with
  |none=>rw[istep_of T hf]at h;rw[istep_of T (h1▸hf)];exact noHeap_new0 T hn h
  |some st=>unfold istep at h ⊢;rw[hf]at h;rw[<-h1,hf];exact h
end
inductive Reach(ops:Array Oper):Nat->Nat->Prop
 |dir {p i:Nat}{o:Oper}{e:Edge}(ho:ops[i]? =some o)(he:e∈o.after)(hb:Region.binds .any e=true)(hp:e.on=p):Reach ops p i
 |tr {p i:Nat}{o:Oper}{e:Edge}(ho:ops[i]? =some o)(he:e∈o.after)(hb:Region.binds .any e=true)(hp:Reach ops p e.on):Reach ops p i
structure Row where
 anc:Nat
 adst:Nat
 bit:Nat
abbrev Rows':=Trie Row
def dbit:Option Tmp->Nat
 |none=>0
 |some d=>2 ^ d
def preds(i:Nat)(M:Rows'):List Edge->Nat->Nat->Option (Nat×Nat)
 | [],acc,ad=>some (acc,ad)
 |e::es,acc,ad=>
  if Region.binds .any e then
   (if e.on<i then
    (if acc.testBit e.on then preds i M es acc ad
    else match M.get e.on with
     |some r=>preds i M es (acc ||| r.anc ||| 2 ^ e.on) (ad ||| r.adst ||| r.bit)
     |none=>none)
   else none)
  else preds i M es acc ad
def RowOk(ops:Array Oper)(i:Nat)(r:Row):Prop:=
 (∀p,r.anc.testBit p=true->Reach ops p i)∧(∀t,r.adst.testBit t=true->∃ p o,Reach ops p i∧ops[p]? =some o∧o.dst=some t)∧
 (∀t,r.bit.testBit t=true->∃ o,ops[i]? =some o∧o.dst=some t)
theorem preds_ok{ops:Array Oper}{i:Nat}{o:Oper}(ho:ops[i]? =some o){M:Rows'}(hM:∀ p r,M.get p=some r->RowOk ops p r):
 ∀(es:List Edge) (acc ad:Nat) (r:Nat×Nat),(∀e∈es,e∈o.after)->(∀p,acc.testBit p=true->Reach ops p i)->(∀t,ad.testBit t=true->∃ p o,Reach ops p i∧ops[p]? =some o∧o.dst=some t)->
  preds i M es acc ad=some r->(∀p,r.1.testBit p=true->Reach ops p i)∧(∀t,r.2.testBit t=true->∃ p o,Reach ops p i∧ops[p]? =some o∧o.dst=some t)∧(∀e∈es,Region.binds .any e=true->e.on<i):=by
 intro es
 induction es with
 |nil=>
  intro acc ad r _ h1 h2 h
  simp only[preds]at h;injection h with h;subst h
  exact⟨h1,h2,fun e he=>by cases he⟩
 |cons e es ih=>
  intro acc ad r hin h1 h2 h
  simp only[preds]at h
  have hin':∀ e∈es,e∈o.after:=fun e he=>hin e (List.mem_cons_of_mem _ he)
  split at h
  ·rename_i hb
   split at h
   ·rename_i hlt
    have cons:(∀e'∈es,Region.binds .any e'=true->e'.on<i)->∀ e'∈e::es,Region.binds .any e'=true->e'.on<i:=by
     intro hh e' he' hb'
     rcases List.mem_cons.1 he' with rfl |he'
     ·exact hlt
     ·exact hh e' he' hb'
    split at h
    ·obtain⟨g1,g2,g3⟩:=ih _ _ _ hin' h1 h2 h
     exact⟨g1,g2,cons g3⟩
    ·split at h
     ·rename_i r0 hr0
      obtain⟨k1,k2,k3⟩:=hM _ _ hr0
      have he:e∈o.after:=hin e (by simp)
      obtain⟨g1,g2,g3⟩:=ih _ _ _ hin' (fun p hp=>by
       rw[Nat.testBit_or,Nat.testBit_or,Nat.testBit_two_pow]at hp
       simp only[Bool.or_eq_true,decide_eq_true_eq]at hp
       rcases hp with(hp |hp) |hp
       ·exact h1 p hp
       ·exact .tr ho he hb (k1 p hp)
       ·exact .dir ho he hb hp) (fun t ht=>by
       rw[Nat.testBit_or,Nat.testBit_or]at ht
       simp only[Bool.or_eq_true]at ht
       rcases ht with(ht |ht) |ht
       ·exact h2 t ht
       ·obtain⟨p,o',q1,q2,q3⟩:=k2 t ht
        exact⟨p,o',.tr ho he hb q1,q2,q3⟩
       ·obtain⟨o',q2,q3⟩:=k3 t ht
        exact⟨e.on,o',.dir ho he hb rfl,q2,q3⟩) h
      exact⟨g1,g2,cons g3⟩
     ·cases h
   ·cases h
  ·rename_i hb
   obtain⟨g1,g2,g3⟩:=ih _ _ _ hin' h1 h2 h
   refine⟨g1,g2,fun e' he' hb'=> ?_⟩
   rcases List.mem_cons.1 he' with rfl |he'
   ·exact absurd hb' hb
   ·exact g3 e' he' hb'
end Go.Eng
namespace Go.Eng
open Go.RowKit
variable [Far]
inductive Ob where
 |read (i:Nat)(o:Oper)(env:Env)(anc:Nat)(x:IV)
 |new (i:Nat)(anc:Nat)(ob:IObj)(k:Nat)
structure DS where
 i:Nat
 M:Rows'
 env:Env
 vals:List IV
 Hs:List IHeap
 es:List Nat
 em:Nat
 obs:List Ob
 pan:Option (Nat×IV×IHeap)
 late:List (Nat×Nat)
def nth{α:Type}(l:List α)(i:Nat):Option α:=l.reverse[i]?
theorem nth_append{α:Type}(a l:List α){i:Nat}(h:i<l.length):nth (a++l) i=nth l i:=by
 unfold nth;rw[List.reverse_append,List.getElem?_append_left (by simpa using h)]
theorem nth_last{α:Type}(x:α)(l:List α):nth (x::l) l.length=some x:=by
 unfold nth;rw[List.reverse_cons,List.getElem?_append_right (by simp)];simp
theorem nth_lt{α:Type}{l:List α}{i:Nat}{x:α}(h:nth l i=some x):i<l.length:=by
 unfold nth at h
 have:=(List.getElem?_eq_some_iff.1 h).1
 simpa using this
theorem nth_mem{α:Type}{l:List α}{i:Nat}{x:α}(h:nth l i=some x):x∈l:=by
 unfold nth at h
 have:=List.mem_of_getElem? h
 simpa using this
theorem nth_cons{α:Type}{x y:α}{l:List α}{i:Nat}(h:nth (x::l) i=some y):(i=l.length∧x=y)∨(i<l.length∧nth l i=some y):=by
 have hlt:=nth_lt h
 by_cases hi:i=l.length
 ·subst hi;rw[nth_last]at h;injection h with h;exact .inl ⟨rfl,h⟩
 ·have hl:i<l.length:=by simp at hlt;omega
  have:=nth_append [x] l hl
  exact .inr ⟨hl,by rw[<-this];exact h⟩
theorem nth_some{α:Type}{l:List α}{i:Nat}(h:i<l.length):∃ x,nth l i=some x:=by
 unfold nth
 exact⟨_,List.getElem?_eq_getElem (by simpa using h)⟩
def putE(dst:Option Tmp)(x:Option IV)(env:Env):Env:=
 match dst with
 |none=>env
 |some d=>env.set 40 d x
def usesL:List Operand->Nat
 | []=>0
 | .tmp t::l=>2 ^ t ||| usesL l
 |_::l=>usesL l
def usesM(ops:Array Oper)(o:Oper):Nat:=
 usesL o.op.operands.toList ||| (match o.guard with |none=>0 |some (g,_)=>dbit ((ops[g]?).bind (·.dst)))
def effOp:Op->Bool
 | .call {callee:=.builtin b,..}=>(match b with | .append | .copy | .delete | .clear=>true |_=>false)
 | .call _ | .panic _ | .store .. | .mapUpdate .. | .insert .. | .range .. | .next .. =>true
 |_=>false
def allocOp:Op->Option TypeId
 | .alloc t=>some t
 |_=>none
section
variable {P:Program}(T:TO P)(C:Oracle)(Y:YOracle)(ops:Array Oper)(base slots:Nat)
def byteConv:Op->Bool
 | .convert s d _=>isStrD T s&&(byteElem T d).isSome
 |_=>false
def deadAt(pan:Option (Nat×IV×IHeap))(anc:Nat):Bool:=
 match pan with
 |none=>false
 |some (m,_,_)=>anc.testBit m
def dwant(o:Oper)(st:DS)(M':Rows')(anc:Nat)(late:List (Nat×Nat)):Option DS:=
 match st.Hs with
 | []=>none
 |H::Hs=>
  if effOp o.op||byteConv T o.op then
   (match st.pan with
   |some _=>none
   |none=>
    if st.em &&& anc=st.em then
     (match evVal T C Y o st.env H with
     |some (.val x H')=>some ⟨st.i+1,M',putE o.dst (some x) st.env,x::st.vals,H'::H::Hs,st.i::st.es,st.em ||| 2 ^ st.i,st.obs,none,late⟩
     |some (.pan x H')=>some ⟨st.i+1,M',putE o.dst none st.env,.junk::st.vals,H::Hs,st.es,st.em,st.obs,some (st.i,x,H'),late⟩
     |none=>none)
    else none)
  else
   match allocOp o.op with
   |some t=>
    (match ialloc T t with
    |some (ob,f)=>some ⟨st.i+1,M',putE o.dst (some (f (base+st.i))) st.env,f (base+st.i)::st.vals,H::Hs,st.es,st.em,.new st.i anc ob 0::st.obs,st.pan,late⟩
    |none=>none)
   |none=>
    match istep T H (evalI st.env) o with
    |some (.val x)=>
     some ⟨st.i+1,M',putE o.dst (some x) st.env,x::st.vals,H::Hs,st.es,st.em,if noHeap T o.op then st.obs else .read st.i o st.env anc x::st.obs,st.pan,late⟩
    |some (.new ob f)=>
     if noHeap T o.op=true then
      match(H.get (base+st.i)).isSome with
      |true=>some ⟨st.i+1,M',putE o.dst (some (f (base+st.i))) st.env,f (base+st.i)::st.vals,H::Hs,st.es,st.em,.new st.i anc ob 0::st.obs,st.pan,late⟩
      |false=>
      some ⟨st.i+1,M',putE o.dst (some (f (base+st.i))) st.env,f (base+st.i)::st.vals,(match st.pan with |none=>H.set (base+st.i) (some ob) |some _=>H)::Hs,st.es,st.em,.new st.i anc ob st.es.length::st.obs,st.pan,late⟩
     else none
    |_=>none
def lates(o:Oper)(ad:Nat)(st:DS):List (Nat×Nat):=
 if usesM ops o &&& slots &&& ad=usesM ops o &&& slots then st.late else(st.i,usesM ops o)::st.late
def dstep(o:Oper)(st:DS):Option DS:=
 match preds st.i st.M o.after.toList 0 0 with
 |none=>none
 |some (anc,ad)=>
  if deadAt st.pan anc then some ⟨st.i+1,st.M.set 40 st.i (some ⟨anc,ad,dbit o.dst⟩),putE o.dst none st.env,.junk::st.vals,st.Hs,st.es,st.em,st.obs,st.pan,st.late⟩
  else
   (match iwanted ops o st.env with
   |none=>none
   |some false=>some ⟨st.i+1,st.M.set 40 st.i (some ⟨anc,ad,dbit o.dst⟩),putE o.dst (some (.tup [])) st.env,.tup []::st.vals,st.Hs,st.es,st.em,st.obs,st.pan,lates ops slots o ad st⟩
   |some true=>dwant T C Y base o st (st.M.set 40 st.i (some ⟨anc,ad,dbit o.dst⟩)) anc (lates ops slots o ad st))
def dpass:List Oper->DS->Option DS
 | [],st=>some st
 |o::l,st=>
  match dstep T C Y ops base slots o st with
  |some st'=>dpass l st'
  |none=>none
def EnvF(env0:Env)(vals:List IV)(i:Nat)(env:Env):Prop:=
 ∀t x,env.get t=some x->(∃p o,p<i∧ops[p]? =some o∧o.dst=some t∧nth vals p=some x)∨
  (env0.get t=some x∧∀ p o,p<i->ops[p]? =some o->o.dst=some t->False)
def Grew(obs:List Ob)(m:Nat)(H H':IHeap):Prop:=
 H'.next=H.next∧H'.g=H.g∧∀ b o,H'.get b=some o->H.get b=some o∨∃ i anc,i<ops.size∧b=base+i∧Ob.new i anc o m∈obs
theorem Grew.refl(obs:List Ob)(m:Nat)(H:IHeap):Grew ops base obs m H H:=⟨rfl,rfl,fun _ _ h=>.inl h⟩
theorem Grew.trans{obs obs':List Ob}{m:Nat}{H1 H2 H3:IHeap}(h:Grew ops base obs m H1 H2)(k:Grew ops base obs' m H2 H3)(ho:∀ ob,ob∈obs->ob∈obs'):Grew ops base obs' m H1 H3:=
 ⟨k.1.trans h.1,k.2.1.trans h.2.1,fun b o hb=>by
  rcases k.2.2 b o hb with hb |hb
  ·rcases h.2.2 b o hb with hb |⟨i,anc,h1,h2,h3⟩
   ·exact .inl hb
   ·exact .inr ⟨i,anc,h1,h2,ho _ h3⟩
  ·exact .inr hb⟩
def NP(F:DS)(i:Nat):Prop:=∀ m x H,F.pan=some (m,x,H)->m≠i
def Quiet(F:DS)(i:Nat):Prop:=i∉F.es∧NP F i
def ValF(F:DS)(i:Nat)(o:Oper)(env:Env)(anc:Nat):Prop:=
 (Quiet F i∧∃ x H,nth F.vals i=some x∧noHeap T o.op=true∧istep T H (evalI env) o=some (.val x))∨
 (Quiet F i∧∃ x,nth F.vals i=some x∧Ob.read i o env anc x∈F.obs)∨
 (Quiet F i∧∃ ob f k H,istep T H (evalI env) o=some (.new ob f)∧noHeap T o.op=true∧nth F.vals i=some (f (base+i))∧Ob.new i anc ob k∈F.obs)∨
 (NP F i∧∃ m H x H1 H',nth F.es m=some i∧nth F.Hs m=some H∧nth F.Hs (m+1)=some H'∧evVal T C Y o env H=some (.val x H1)∧Grew ops base F.obs (m+1) H1 H'∧nth F.vals i=some x∧∀ m' e,m'<m->nth F.es m'=some e->anc.testBit e=true)∨
 (i∉F.es∧∃ x H H',F.pan=some (i,x,H')∧nth F.Hs F.es.length=some H∧evVal T C Y o env H=some (.pan x H')∧∀ m e,nth F.es m=some e->anc.testBit e=true)
def Fact(env0:Env)(F:DS)(i:Nat):Prop:=∃ (o:Oper)(env:Env)(anc ad:Nat),ops[i]? =some o∧(∀e∈o.after,Region.binds .any e=true->e.on<i)∧
 (∀p,anc.testBit p=true->Reach ops p i)∧(∀t,ad.testBit t=true->∃ p o,Reach ops p i∧ops[p]? =some o∧o.dst=some t)∧
 ((deadAt F.pan anc=true)∨
   ((∀t,(usesM ops o).testBit t=true->slots.testBit t=true->ad.testBit t=true∨∃ m,(i,m)∈F.late∧m.testBit t=true)∧EnvF ops env0 F.vals i env∧
     ((iwanted ops o env=some false∧Quiet F i∧nth F.vals i=some (.tup []))∨(iwanted ops o env=some true∧ValF T C Y ops base F i o env anc))))
structure WF(env0:Env)(lim:Nat)(st:DS):Prop where
 len:st.vals.length=st.i
 hs:st.Hs.length=st.es.length+1
 M:∀ p r,st.M.get p=some r->RowOk ops p r
 env:EnvF ops env0 st.vals st.i st.env
 em:∀ e,e∈st.es->st.em.testBit e=true
 lt:∀ e,e∈st.es->e<st.i
 mono:∀ m m' e e',m<m'->nth st.es m=some e->nth st.es m'=some e'->e<e'
 next:∀ H,H∈st.Hs->lim<=H.next
 panH:∀ m x H,st.pan=some (m,x,H)->lim<=H.next∧m<st.i∧m∉st.es
 obR:∀ i anc ob k,Ob.new i anc ob k∈st.obs->∀ p,anc.testBit p=true->Reach ops p i
structure Le(ops:Array Oper)(base:Nat)(st F:DS):Prop where
 vals:∃ a,F.vals=a++st.vals
 hs:∀ m H,nth st.Hs m=some H->∃ H',nth F.Hs m=some H'∧(m<st.es.length->H'=H)∧Grew ops base F.obs m H H'
 es:∃ a,F.es=a++st.es∧∀ e∈a,st.i<=e
 obs:∀ ob,ob∈st.obs->ob∈F.obs
 pan:∀ p,st.pan=some p->F.pan=some p∧F.es=st.es∧F.Hs=st.Hs
 le:st.i<=F.i
 panNew:∀ m x H,F.pan=some (m,x,H)->st.pan=some (m,x,H)∨st.i<=m
 late:∀ x,x∈st.late->x∈F.late
theorem Le.refl(st:DS):Le ops base st st:=⟨⟨[],rfl⟩,fun m H h=>⟨H,h,fun _=>rfl,Grew.refl _ _ _ _ _⟩,⟨[],rfl,fun e h=>by cases h⟩,fun _ h=>h,fun _ h=>⟨h,rfl,rfl⟩,Nat.le_refl _,fun _ _ _ h=>.inl h,fun _ h=>h⟩
theorem Le.trans{a b c:DS}(h:Le ops base a b)(k:Le ops base b c):Le ops base a c where
 vals:=by obtain⟨x,h1⟩:=h.vals;obtain⟨y,h2⟩:=k.vals;exact⟨y++x,by rw[h2,h1,List.append_assoc]⟩
 hs:=fun m H hm=>by
  obtain⟨H1,p1,p2,p3⟩:=h.hs m H hm
  obtain⟨H2,q1,q2,q3⟩:=k.hs m H1 p1
  refine⟨H2,q1,fun hlt=> ?_,p3.trans _ _ q3 k.obs⟩
  have:a.es.length<=b.es.length:=by obtain⟨x,h1,_⟩:=h.es;rw[h1];simp
  rw[q2 (by omega),p2 hlt]
 es:=by
  obtain⟨x,h1,h1'⟩:=h.es;obtain⟨y,h2,h2'⟩:=k.es
  refine⟨y++x,by rw[h2,h1,List.append_assoc],fun e he=> ?_⟩
  rcases List.mem_append.1 he with he |he
  ·exact Nat.le_trans h.le (h2' e he)
  ·exact h1' e he
 obs:=fun ob hb=>k.obs ob (h.obs ob hb)
 pan:=fun p hp=>by
  obtain⟨h1,h2,h3⟩:=h.pan p hp
  obtain⟨k1,k2,k3⟩:=k.pan p h1
  exact⟨k1,k2.trans h2,k3.trans h3⟩
 le:=Nat.le_trans h.le k.le
 panNew:=fun m x H hp=>by
  rcases k.panNew m x H hp with hp |hp
  ·exact h.panNew m x H hp
  ·exact .inr (Nat.le_trans h.le hp)
 late:=fun x hx=>k.late x (h.late x hx)
theorem EnvF.put{env0 env:Env}{vals:List IV}{i:Nat}{o:Oper}(ho:ops[i]? =some o)(hl:vals.length=i)(h:EnvF ops env0 vals i env)(x:IV)(y:Option IV)(hy:y=none∨y=some x):
 EnvF ops env0 (x::vals) (i+1) (putE o.dst y env):=by
 have old:∀ t z,env.get t=some z->o.dst≠some t->(∃p o,p<i+1∧ops[p]? =some o∧o.dst=some t∧nth (x::vals) p=some z)∨(env0.get t=some z∧∀ p o,p<i+1->ops[p]? =some o->o.dst=some t->False):=by
  intro t z hz hne
  rcases h t z hz with⟨p,o',h1,h2,h3,h4⟩ |⟨h1,h2⟩
  ·exact .inl ⟨p,o',by omega,h2,h3,by rw[<-h4];exact nth_append [x] vals (by omega)⟩
  ·refine .inr ⟨h1,fun p o' hp ho' hd=> ?_⟩
   by_cases hpi:p=i
   ·subst hpi;rw[ho]at ho';injection ho' with ho';subst ho';exact hne hd
   ·exact h2 p o' (by omega) ho' hd
 intro t z hz
 unfold putE at hz
 split at hz
 ·rename_i hd;exact old t z hz (by rw[hd];simp)
 ·rename_i d hd
  rcases Trie.get_set _ _ _ _ _ _ hz with⟨rfl,h1⟩ |⟨h1,h2⟩
  ·rcases hy with rfl |rfl
   ·cases h1
   ·injection h1 with h1;subst h1
    refine .inl ⟨i,o,by omega,ho,hd,?_⟩
    rw[<-hl];exact nth_last _ _
  ·exact old t z h2 (by rw[hd];simp;exact fun h=>h1 h.symm)
theorem dbit_ok{i:Nat}{o:Oper}(ho:ops[i]? =some o)(t:Nat)(h:(dbit o.dst).testBit t=true):∃ o,ops[i]? =some o∧o.dst=some t:=by
 refine⟨o,ho,?_⟩
 unfold dbit at h
 split at h
 ·simp at h
 ·rename_i d hd
  rw[Nat.testBit_two_pow]at h
  have:=of_decide_eq_true h
  rw[hd,this]
theorem M_set{i:Nat}{o:Oper}(ho:ops[i]? =some o){M:Rows'}(hM:∀ p r,M.get p=some r->RowOk ops p r){anc ad:Nat}(h1:∀ p,anc.testBit p=true->Reach ops p i)
 (h2:∀ t,ad.testBit t=true->∃ p o,Reach ops p i∧ops[p]? =some o∧o.dst=some t):∀ p r,(M.set 40 i (some ⟨anc,ad,dbit o.dst⟩)).get p=some r->RowOk ops p r:=by
 intro p r h
 rcases Trie.get_set _ _ _ _ _ _ h with⟨rfl,h3⟩ |⟨_,h3⟩
 ·injection h3 with h3;subst h3
  exact⟨h1,h2,dbit_ok ops ho⟩
 ·exact hM p r h3
theorem em_and{em anc:Nat}(h:em &&& anc=em)(e:Nat)(he:em.testBit e=true):anc.testBit e=true:=by
 have:(em &&& anc).testBit e=true:=by rw[h];exact he
 rw[Nat.testBit_and]at this
 simp only[Bool.and_eq_true]at this
 exact this.2
theorem EnvF.le{env0 env:Env}{vals vals':List IV}{i:Nat}(h:EnvF ops env0 vals i env)(hl:vals.length=i)(hv:∃ a,vals'=a++vals):EnvF ops env0 vals' i env:=by
 intro t x ht
 obtain⟨a,rfl⟩:=hv
 rcases h t x ht with⟨p,o,h1,h2,h3,h4⟩ |h
 ·exact .inl ⟨p,o,h1,h2,h3,by rw[nth_append _ _ (by omega)];exact h4⟩
 ·exact .inr h
theorem not_es{st st' F:DS}(hle:Le ops base st' F)(hi:st'.i=st.i+1)(hes:st'.es=st.es)(hlt:∀ e,e∈st.es->e<st.i):st.i∉F.es:=by
 intro h
 obtain⟨a,h1,h2⟩:=hle.es
 rw[h1]at h
 rcases List.mem_append.1 h with h |h
 ·have:=h2 _ h;omega
 ·rw[hes]at h;have:=hlt _ h;omega
theorem not_pan{st st' F:DS}(hle:Le ops base st' F)(hi:st'.i=st.i+1)(hp:∀ m x H,st'.pan=some (m,x,H)->m<st.i):NP F st.i:=by
 intro m x H h
 rcases hle.panNew m x H h with h |h
 ·have:=hp m x H h;omega
 ·omega
theorem vals_le{st st' F:DS}{x:IV}(hle:Le ops base st' F)(hv:st'.vals=x::st.vals)(hl:st.vals.length=st.i):nth F.vals st.i=some x:=by
 obtain⟨a,h1⟩:=hle.vals
 rw[h1,hv,nth_append _ _ (by simp;omega),<-hl,nth_last]
theorem alloc_step{H:IHeap}{ρ:Operand->IV}{o:Oper}{t:TypeId}{ob:IObj}{f:Nat->IV}(hop:o.op=.alloc t)(hal:ialloc T t=some (ob,f)):istep T H ρ o=some (.new ob f):=by
 obtain⟨dst,op,type,pos,after,guard⟩:=o
 simp only at hop;subst hop
 rw[istep_of T rfl]
 simp only[istep0,armOf,hal,Step.ofNew]
theorem dstep_ok{env0:Env}{lim:Nat}{o:Oper}{st st':DS}(hwf:WF ops env0 lim st)(ho:ops[st.i]? =some o)(hlim:base+ops.size<=lim)(hmono:∀ o env H r,evVal T C Y o env H=some r->(match r with | .val _ H' | .pan _ H'=>H.next<=H'.next))(h:dstep T C Y ops base slots o st=some st'):
 WF ops env0 lim st'∧Le ops base st st'∧st'.i=st.i+1∧∀ F,Le ops base st' F->Fact T C Y ops base slots env0 F st.i:=by
 unfold dstep at h
 split at h
 ·cases h
 ·rename_i anc ad hp
  obtain⟨p1,p2,p3⟩:=preds_ok ho hwf.M _ _ _ _ (fun e he=>by simpa using he) (fun p hp=>by simp at hp) (fun t ht=>by simp at ht) hp
  have p3':∀ e∈o.after,Region.binds .any e=true->e.on<st.i:=fun e he=>p3 e (by simpa using he)
  have hM':=M_set ops ho hwf.M p1 p2
  have base0:∀ F,Le ops base st' F->(deadAt F.pan anc=true∨
   ((∀t,(usesM ops o).testBit t=true->slots.testBit t=true->ad.testBit t=true∨∃ m,(st.i,m)∈F.late∧m.testBit t=true)∧EnvF ops env0 F.vals st.i st.env∧
   ((iwanted ops o st.env=some false∧Quiet F st.i∧nth F.vals st.i=some (.tup []))∨(iwanted ops o st.env=some true∧ValF T C Y ops base F st.i o st.env anc))))->Fact T C Y ops base slots env0 F st.i:=
   fun F _ hf=>⟨o,st.env,anc,ad,ho,p3',p1,p2,hf⟩
  have ltS:∀ e,e∈st.es->e<st.i+1:=fun e he=>Nat.lt_succ_of_lt (hwf.lt e he)
  have panS:∀ m x H,st.pan=some (m,x,H)->lim<=H.next∧m<st.i+1∧m∉st.es:=fun m x H hm=>⟨(hwf.panH m x H hm).1,Nat.lt_succ_of_lt (hwf.panH m x H hm).2.1,(hwf.panH m x H hm).2.2⟩
  have obN:∀ k ob,∀i anc' ob' k',Ob.new i anc' ob' k'∈(Ob.new st.i anc ob k::st.obs)->∀ p,anc'.testBit p=true->Reach ops p i:=by
   intro k ob i anc' ob' k' hm p hbit
   rcases List.mem_cons.1 hm with hm |hm
   ·injection hm with m1 m2 m3 m4;subst m1;subst m2;exact p1 p hbit
   ·exact hwf.obR i anc' ob' k' hm p hbit
  have obV:∀ x,∀i anc' ob' k',Ob.new i anc' ob' k'∈(if noHeap T o.op then st.obs else Ob.read st.i o st.env anc x::st.obs)->∀ p,anc'.testBit p=true->Reach ops p i:=by
   intro x i anc' ob' k' hm p hp
   split at hm
   ·exact hwf.obR i anc' ob' k' hm p hp
   ·rcases List.mem_cons.1 hm with hm |hm
    ·cases hm
    ·exact hwf.obR i anc' ob' k' hm p hp
  split at h
  ·rename_i hdead
   injection h with h;subst h
   refine⟨⟨by simp[hwf.len],hwf.hs,hM',EnvF.put ops ho hwf.len hwf.env _ _ (.inl rfl),hwf.em,ltS,hwf.mono,hwf.next,panS,hwf.obR⟩,
    ⟨⟨[.junk],rfl⟩,fun m H h=>⟨H,h,fun _=>rfl,Grew.refl _ _ _ _ _⟩,⟨[],rfl,fun e h=>by cases h⟩,fun _ h=>h,fun _ h=>⟨h,rfl,rfl⟩,Nat.le_succ _,fun _ _ _ h=>.inl h,fun _ h=>h⟩,rfl,fun F hF=>base0 F hF (.inl ?_)⟩
   cases hpan:st.pan with
   |none=>rw[hpan]at hdead;cases hdead
   |some p=>rw[(hF.pan p hpan).1,<-hpan];exact hdead
  ·have hlt:∀ x,x∈st.late->x∈lates ops slots o ad st:=by
    intro x hx;unfold lates;split
    ·exact hx
    ·exact List.mem_cons_of_mem _ hx
   have huse':∀ F:DS,(∀x,x∈lates ops slots o ad st->x∈F.late)->∀ t,(usesM ops o).testBit t=true->slots.testBit t=true->ad.testBit t=true∨∃ m,(st.i,m)∈F.late∧m.testBit t=true:=by
    intro F hF t h1 h2
    by_cases he:usesM ops o &&& slots &&& ad=usesM ops o &&& slots
    ·left
     have:(usesM ops o &&& slots).testBit t=true:=by rw[Nat.testBit_and,h1,h2];rfl
     rw[<-he,Nat.testBit_and]at this
     simp only[Bool.and_eq_true]at this
     exact this.2
    ·right
     exact⟨usesM ops o,hF _ (by unfold lates;rw[if_neg he];simp),h1⟩
   ·split at h
    ·cases h
    ·rename_i hw
     injection h with h;subst h
     refine⟨⟨by simp[hwf.len],hwf.hs,hM',EnvF.put ops ho hwf.len hwf.env _ _ (.inr rfl),hwf.em,ltS,hwf.mono,hwf.next,panS,hwf.obR⟩,
      ⟨⟨[.tup []],rfl⟩,fun m H h=>⟨H,h,fun _=>rfl,Grew.refl _ _ _ _ _⟩,⟨[],rfl,fun e h=>by cases h⟩,fun _ h=>h,fun _ h=>⟨h,rfl,rfl⟩,Nat.le_succ _,fun _ _ _ h=>.inl h,hlt⟩,rfl,fun F hF=>base0 F hF (.inr ⟨huse' F hF.late,?_,.inl ⟨hw,?_,?_⟩⟩)⟩
     ·exact hwf.env.le ops hwf.len (by obtain⟨a,ha⟩:=hF.vals;exact⟨a++[.tup []],by rw[ha];simp⟩)
     ·exact⟨not_es ops base hF rfl rfl hwf.lt,not_pan ops base hF rfl fun m x H h=>(hwf.panH m x H h).2.1⟩
     ·exact vals_le ops base hF rfl hwf.len
    ·rename_i hw
     unfold dwant at h
     split at h
     ·cases h
     ·rename_i H Hs hHs
      have hH0:nth st.Hs st.es.length=some H:=by
       have:Hs.length=st.es.length:=by have:=hwf.hs;rw[hHs]at this;simpa using this
       rw[hHs,<-this];exact nth_last _ _
      have hnext:lim<=H.next:=hwf.next H (by rw[hHs];simp)
      split at h
      ·-- an effect
       split at h
       ·cases h
       ·rename_i hpan
        split at h
        ·rename_i hem
         split at h
         ·rename_i x H' hv
          injection h with h;subst h
          have hm:=hmono _ _ _ _ hv
          have hemm:∀ e,e∈st.i::st.es->(st.em ||| 2 ^ st.i).testBit e=true:=by
           intro e he
           rw[Nat.testBit_or,Nat.testBit_two_pow]
           rcases List.mem_cons.1 he with rfl |he
           ·simp
           ·rw[hwf.em e he];rfl
          have hmonoE:∀ m m' e e',m<m'->nth (st.i::st.es) m=some e->nth (st.i::st.es) m'=some e'->e<e':=by
           intro m m' e e' hmm h1 h2
           rcases nth_cons h1 with⟨q1,q2⟩ |⟨q1,q2⟩
           ·have:=nth_lt h2;simp at this;omega
           ·rcases nth_cons h2 with⟨r1,r2⟩ |⟨r1,r2⟩
            ·rw[<-r2];exact hwf.lt e (nth_mem q2)
            ·exact hwf.mono m m' e e' hmm q2 r2
          refine⟨⟨by simp[hwf.len],by have:=hwf.hs;rw[hHs]at this;simp at this ⊢;exact this,hM',EnvF.put ops ho hwf.len hwf.env _ _ (.inr rfl),hemm,?_,hmonoE,?_,fun m x H hm=>(by cases hm),hwf.obR⟩,
           ⟨⟨[x],rfl⟩,fun m G hG=>⟨G,by rw[hHs]at hG;have:=nth_append [H'] (H::Hs) (nth_lt hG);rw[List.singleton_append]at this;rw[this];exact hG,fun _=>rfl,Grew.refl _ _ _ _ _⟩,⟨[st.i],rfl,fun e he=>by simp at he;subst he;exact Nat.le_refl _⟩,fun _ h=>h,fun p hp=>(by rw[hpan]at hp;cases hp),Nat.le_succ _,fun _ _ _ h=>(by cases h),hlt⟩,rfl,fun F hF=>base0 F hF (.inr ⟨huse' F hF.late,?_,.inr ⟨hw,?_⟩⟩)⟩
          ·intro e he
           rcases List.mem_cons.1 he with rfl |he
           ·exact Nat.lt_succ_self _
           ·exact ltS e he
          ·intro G hG
           rcases List.mem_cons.1 hG with rfl |hG
           ·exact Nat.le_trans hnext hm
           ·exact hwf.next G (by rw[hHs];exact hG)
          ·exact hwf.env.le ops hwf.len (by obtain⟨a,ha⟩:=hF.vals;exact⟨a++[x],by rw[ha];simp⟩)
          ·obtain⟨a,ha,ha'⟩:=hF.es
           have hlen:Hs.length=st.es.length:=by have:=hwf.hs;rw[hHs]at this;simpa using this
           have a1:nth (H'::H::Hs) st.es.length=some H:=by
            have:=nth_append [H'] (H::Hs) (i:=st.es.length) (by simp;omega)
            rw[List.singleton_append]at this
            rw[this,<-hlen];exact nth_last _ _
           have a2:nth (H'::H::Hs) (st.es.length+1)=some H':=by
            have:st.es.length+1=(H::Hs).length:=by simp;omega
            rw[this];exact nth_last _ _
           obtain⟨G1,p1,p2,p3⟩:=hF.hs _ _ a1
           obtain⟨G2,q1,q2,q3⟩:=hF.hs _ _ a2
           have hG1:=p2 (by simp)
           subst hG1
           refine .inr (.inr (.inr (.inl ⟨not_pan ops base hF rfl (fun m x H h=>by cases h),st.es.length,G1,x,H',G2,?_,p1,q1,hv,q3,vals_le ops base hF rfl hwf.len,?_⟩)))
           ·rw[ha,nth_append _ _ (by simp)];exact nth_last _ _
           ·intro m' e hm' he
            rw[ha,nth_append _ _ (by simp;omega)]at he
            have:e∈st.es:=by
             rcases nth_cons he with⟨q1,q2⟩ |⟨q1,q2⟩
             ·omega
             ·exact nth_mem q2
            exact em_and hem e (hwf.em e this)
         ·rename_i x H' hv
          injection h with h;subst h
          have hm:=hmono _ _ _ _ hv
          refine⟨⟨by simp[hwf.len],by have:=hwf.hs;rw[hHs]at this;exact this,hM',EnvF.put ops ho hwf.len hwf.env _ _ (.inl rfl),hwf.em,ltS,hwf.mono,fun G hG=>hwf.next G (by rw[hHs];exact hG),fun m x G hm'=> ?_,hwf.obR⟩,
           ⟨⟨[.junk],rfl⟩,fun m G hG=>⟨G,by rw[hHs]at hG;exact hG,fun _=>rfl,Grew.refl _ _ _ _ _⟩,⟨[],rfl,fun e he=>by cases he⟩,fun _ h=>h,fun p hp=>(by rw[hpan]at hp;cases hp),Nat.le_succ _,fun m x H h=>by(injection h with h;injection h with h1 h2;exact .inr (Nat.le_of_eq h1)),hlt⟩,rfl,fun F hF=>base0 F hF (.inr ⟨huse' F hF.late,?_,.inr ⟨hw,?_⟩⟩)⟩
          ·injection hm' with hm';injection hm' with h1 h2;injection h2 with h2 h3;subst h1;subst h3
           exact⟨Nat.le_trans hnext hm,Nat.lt_succ_self _,fun h=>by have:=hwf.lt _ h;omega⟩
          ·exact hwf.env.le ops hwf.len (by obtain⟨a,ha⟩:=hF.vals;exact⟨a++[.junk],by rw[ha];simp⟩)
          ·obtain⟨k1,k2,k3⟩:=hF.pan _ rfl
           refine .inr (.inr (.inr (.inr ⟨not_es ops base hF rfl rfl hwf.lt,x,H,H',k1,?_,hv,?_⟩)))
           ·rw[k2,k3];simp only;rw[<-hHs];exact hH0
           ·intro m e he
            rw[k2]at he
            exact em_and hem e (hwf.em e (nth_mem he))
         ·cases h
        ·cases h
      ·split at h
       ·-- a new variable
        rename_i t ht
        have hop:o.op=.alloc t:=by
         unfold allocOp at ht;split at ht
         ·rename_i hop;injection ht with ht;subst ht;exact hop
         ·cases ht
        split at h
        ·rename_i ob f hal
         injection h with h;subst h
         refine⟨⟨by simp[hwf.len],by rw[<-hHs];exact hwf.hs,hM',EnvF.put ops ho hwf.len hwf.env _ _ (.inr rfl),hwf.em,ltS,hwf.mono,fun G hG=>hwf.next G (by rw[hHs];exact hG),panS,obN 0 ob⟩,
          ⟨⟨[_],rfl⟩,fun m G hG=>⟨G,by rw[hHs]at hG;exact hG,fun _=>rfl,Grew.refl _ _ _ _ _⟩,⟨[],rfl,fun e he=>by cases he⟩,fun _ h=>List.mem_cons_of_mem _ h,fun p hp=>⟨hp,rfl,hHs.symm⟩,Nat.le_succ _,fun _ _ _ h=>.inl h,hlt⟩,rfl,fun F hF=>base0 F hF (.inr ⟨huse' F hF.late,?_,.inr ⟨hw,?_⟩⟩)⟩
         ·exact hwf.env.le ops hwf.len (by obtain⟨a,ha⟩:=hF.vals;exact⟨a++[_],by rw[ha];simp;rfl⟩)
         ·exact .inr (.inr (.inl ⟨⟨not_es ops base hF rfl rfl hwf.lt,not_pan ops base hF rfl fun m x H h=>(hwf.panH m x H h).2.1⟩,ob,f,0,H,alloc_step T hop hal,by rw[hop];rfl,vals_le ops base hF rfl hwf.len,hF.obs _ (by simp)⟩))
        ·cases h
       ·split at h
        ·rename_i x hst
         injection h with h;subst h
         refine⟨⟨by simp[hwf.len],by rw[<-hHs];exact hwf.hs,hM',EnvF.put ops ho hwf.len hwf.env _ _ (.inr rfl),hwf.em,ltS,hwf.mono,fun G hG=>hwf.next G (by rw[hHs];exact hG),panS,obV x⟩,
          ⟨⟨[_],rfl⟩,fun m G hG=>⟨G,by rw[hHs]at hG;exact hG,fun _=>rfl,Grew.refl _ _ _ _ _⟩,⟨[],rfl,fun e he=>by cases he⟩,fun _ h=>by simp only;split;exact h;exact List.mem_cons_of_mem _ h,fun p hp=>⟨hp,rfl,hHs.symm⟩,Nat.le_succ _,fun _ _ _ h=>.inl h,hlt⟩,rfl,fun F hF=>base0 F hF (.inr ⟨huse' F hF.late,?_,.inr ⟨hw,?_⟩⟩)⟩
         ·exact hwf.env.le ops hwf.len (by obtain⟨a,ha⟩:=hF.vals;exact⟨a++[x],by rw[ha];simp⟩)
         ·by_cases hnh:noHeap T o.op=true
          ·exact .inl ⟨⟨not_es ops base hF rfl rfl hwf.lt,not_pan ops base hF rfl fun m x H h=>(hwf.panH m x H h).2.1⟩,x,H,vals_le ops base hF rfl hwf.len,hnh,hst⟩
          ·exact .inr (.inl ⟨⟨not_es ops base hF rfl rfl hwf.lt,not_pan ops base hF rfl fun m x H h=>(hwf.panH m x H h).2.1⟩,x,vals_le ops base hF rfl hwf.len,hF.obs _ (by simp only;rw[if_neg hnh];simp)⟩)
        ·rename_i ob f hst
         split at h
         ·rename_i hnh
          split at h
          ·injection h with h;subst h
           refine⟨⟨by simp[hwf.len],by rw[<-hHs];exact hwf.hs,hM',EnvF.put ops ho hwf.len hwf.env _ _ (.inr rfl),hwf.em,ltS,hwf.mono,fun G hG=>hwf.next G (by rw[hHs];exact hG),panS,obN 0 ob⟩,
            ⟨⟨[_],rfl⟩,fun m G hG=>⟨G,by rw[hHs]at hG;exact hG,fun _=>rfl,Grew.refl _ _ _ _ _⟩,⟨[],rfl,fun e he=>by cases he⟩,fun _ h=>List.mem_cons_of_mem _ h,fun p hp=>⟨hp,rfl,hHs.symm⟩,Nat.le_succ _,fun _ _ _ h=>.inl h,hlt⟩,rfl,fun F hF=>base0 F hF (.inr ⟨huse' F hF.late,?_,.inr ⟨hw,?_⟩⟩)⟩
           ·exact hwf.env.le ops hwf.len (by obtain⟨a,ha⟩:=hF.vals;exact⟨a++[_],by rw[ha];simp;rfl⟩)
           ·exact .inr (.inr (.inl ⟨⟨not_es ops base hF rfl rfl hwf.lt,not_pan ops base hF rfl fun m x H h=>(hwf.panH m x H h).2.1⟩,ob,f,0,H,hst,hnh,vals_le ops base hF rfl hwf.len,hF.obs _ (by simp)⟩))
          injection h with h;subst h
          have hlen:Hs.length=st.es.length:=by have:=hwf.hs;rw[hHs]at this;simpa using this
          revert base0
          generalize hH2:(match st.pan with |none=>H.set (base+st.i) (some ob) |some _=>H)=H2
          intro base0
          have hnx:H2.next=H.next:=by rw[<-hH2];cases st.pan<;>rfl
          have hg2:H2.g=H.g:=by rw[<-hH2];cases st.pan<;>rfl
          have hget:∀ b o',H2.get b=some o'->H.get b=some o'∨(b=base+st.i∧o'=ob):=by
           intro b o' hb
           rw[<-hH2]at hb
           cases hp:st.pan with
           |none=>
            rw[hp]at hb
            rcases IHeap.get_set hb with⟨h1,h2⟩ |⟨_,h2⟩
            ·injection h2 with h2;exact .inr ⟨h1,h2.symm⟩
            ·exact .inl h2
           |some p=>rw[hp]at hb;exact .inl hb
          have hpn:∀ p,st.pan=some p->H2=H:=by intro p hp;rw[<-hH2,hp]
          refine⟨⟨by simp[hwf.len],by have:=hwf.hs;rw[hHs]at this;exact this,hM',EnvF.put ops ho hwf.len hwf.env _ _ (.inr rfl),hwf.em,ltS,hwf.mono,fun G hG=> ?_,panS,obN st.es.length ob⟩,
           ⟨⟨[_],rfl⟩,fun m G hG=> ?_,⟨[],rfl,fun e he=>by cases he⟩,fun _ h=>List.mem_cons_of_mem _ h,fun p hp=>⟨hp,rfl,by simp only;rw[hpn p hp];exact hHs.symm⟩,Nat.le_succ _,fun _ _ _ h=>.inl h,hlt⟩,rfl,fun F hF=>base0 F hF (.inr ⟨huse' F hF.late,?_,.inr ⟨hw,?_⟩⟩)⟩
          ·rcases List.mem_cons.1 hG with rfl |hG
           ·rw[hnx];exact hnext
           ·exact hwf.next G (by rw[hHs];exact List.mem_cons_of_mem _ hG)
          ·rw[hHs]at hG
           rcases nth_cons hG with⟨m1,m2⟩ |⟨m1,m2⟩
           ·subst m2;subst m1
            refine⟨H2,nth_last _ _,fun h=>absurd h (by rw[hlen];exact Nat.lt_irrefl _),hnx,hg2,fun b o' hb=> ?_⟩
            rcases hget b o' hb with h |⟨h1,h2⟩
            ·exact .inl h
            ·subst h2
             exact .inr ⟨st.i,anc,(Array.getElem?_eq_some_iff.1 ho).1,h1,by simp only;rw[hlen];simp⟩
           ·refine⟨G,?_,fun _=>rfl,Grew.refl _ _ _ _ _⟩
            have:=nth_append [H2] Hs m1
            rw[List.singleton_append]at this
            simp only;rw[this];exact m2
          ·exact hwf.env.le ops hwf.len (by obtain⟨a,ha⟩:=hF.vals;exact⟨a++[_],by rw[ha];simp;rfl⟩)
          ·have q1:=not_es ops base hF rfl rfl hwf.lt
           have q2:=not_pan ops base hF rfl fun m x H h=>(hwf.panH m x H h).2.1
           have q3:=vals_le ops base hF rfl hwf.len
           have q4:Ob.new st.i anc ob st.es.length∈F.obs:=hF.obs _ (List.mem_cons_self)
           exact .inr (.inr (.inl ⟨⟨q1,q2⟩,ob,f,st.es.length,H,hst,hnh,q3,q4⟩))
         ·cases h
        ·cases h
theorem dpass_ok{env0:Env}{lim:Nat}(hlim:base+ops.size<=lim)(hmono:∀ o env H r,evVal T C Y o env H=some r->(match r with | .val _ H' | .pan _ H'=>H.next<=H'.next)):∀ (l:List Oper)(st F:DS),ops.toList.drop st.i=l->st.i<=ops.size->WF ops env0 lim st->dpass T C Y ops base slots l st=some F->
 WF ops env0 lim F∧Le ops base st F∧F.i=ops.size∧∀ i,st.i<=i->i<ops.size->Fact T C Y ops base slots env0 F i:=by
 intro l
 induction l with
 |nil=>
  intro st F hd hle hwf h
  simp only[dpass]at h;injection h with h;subst h
  have:ops.size - st.i=0:=by have:=congrArg List.length hd;simp at this;exact this
  exact⟨hwf,Le.refl ops base _,by omega,fun i h1 h2=>by omega⟩
 |cons o l ih=>
  intro st F hd hle hwf h
  have hlt:st.i<ops.size:=by have:=congrArg List.length hd;simp at this;omega
  have ho:ops[st.i]? =some o:=by
   have:(ops.toList.drop st.i)[0]? =some o:=by rw[hd];rfl
   simpa using this
  simp only[dpass]at h
  split at h
  ·rename_i st' hs
   obtain⟨w1,w2,w3,w4⟩:=dstep_ok T C Y ops base slots hwf ho hlim hmono hs
   have hd':ops.toList.drop st'.i=l:=by
    rw[w3]
    have:(ops.toList.drop st.i).drop 1=l:=by rw[hd];rfl
    rw[List.drop_drop]at this;exact this
   obtain⟨g1,g2,g3,g4⟩:=ih st' F hd' (by omega) w1 h
   refine⟨g1,Le.trans ops base w2 g2,g3,fun i h1 h2=> ?_⟩
   by_cases hi:i=st.i
   ·subst hi;exact w4 F g2
   ·exact g4 i (by omega) h2
  ·cases h
end
end Go.Eng
namespace Go.Eng
open Go.RowKit
variable [Far]
def upMask:List Nat->Nat
 | []=>0
 |e::es=>2 ^ e ||| upMask es
def okAt{P:Program}(T:TO P)(base k:Nat)(H:IHeap):Ob->Bool
 | .read _ o env _ x=>(match istep T H (evalI env) o with |some (.val y)=>same 20 y x |_=>false)
 | .new i _ ob ki=>Nat.ble ki k&&(match H.get (base+i)with |none=>true |some ob'=>osame ob' ob)
def adm(down up:Nat):Ob->Bool
 | .read i _ _ anc _ | .new i anc _ _=> !down.testBit i&&decide (anc &&& up=0)
def obsGo{P:Program}(T:TO P)(base:Nat)(M:Rows')(obs:List Ob):Nat->List IHeap->List Nat->Nat->Bool
 |k,H::Hs,es,down=>
  obs.all (fun ob=> !adm down (upMask es) ob||okAt T base k H ob)&&
  (match es with
  | []=>true
  |e::es'=>(match M.get e with |some r=>obsGo T base M obs (k+1) Hs es' (down ||| r.anc) |none=>false))
 |_,[],_,_=>true
theorem upMask_ok:∀ (es:List Nat)(e:Nat),(upMask es).testBit e=true->e∈es:=by
 intro es
 induction es with
 |nil=>intro e h;simp[upMask]at h
 |cons x es ih=>
  intro e h
  simp only[upMask,Nat.testBit_or,Nat.testBit_two_pow,Bool.or_eq_true,decide_eq_true_eq]at h
  rcases h with h |h
  ·rw[h];simp
  ·exact List.mem_cons_of_mem _ (ih e h)
theorem land_ne{a b:Nat}(h:¬ (a &&& b=0)):∃ p,a.testBit p=true∧b.testBit p=true:=by
 obtain⟨p,hp⟩:=Nat.exists_testBit_of_ne_zero h
 rw[Nat.testBit_and]at hp
 simp only[Bool.and_eq_true]at hp
 exact⟨p,hp⟩
theorem obsGo_ok{P:Program}(T:TO P){base:Nat}{ops:Array Oper}{M:Rows'}(hM:∀ p r,M.get p=some r->RowOk ops p r){obs:List Ob}{HH:List IHeap}{EE:List Nat}:
 ∀(Hs:List IHeap) (k:Nat) (es:List Nat) (down:Nat),Hs=HH.drop k->es=EE.drop k->(∀i,down.testBit i=true->∃ m e,m<k∧EE[m]? =some e∧Reach ops i e)->obsGo T base M obs k Hs es down=true->
  ∀(k':Nat) (H:IHeap) (ob:Ob),k<=k'->k'<=EE.length->HH[k']? =some H->ob∈obs->
   okAt T base k' H ob=true∨(∃m e,m<k'∧EE[m]? =some e∧Reach ops (match ob with | .read i .. | .new i .. =>i) e)∨
    (∃m e,k'<=m∧EE[m]? =some e∧(match ob with | .read _ _ _ anc _ | .new _ anc _ _=>anc).testBit e=true):=by
 intro Hs
 induction Hs with
 |nil=>
  intro k es down hh he hd h k' H ob hk hk2 hH hob
  have:HH.length<=k:=by have:=congrArg List.length hh;simp at this;omega
  rw[List.getElem?_eq_none (by omega)]at hH;cases hH
 |cons H0 Hs ih=>
  intro k es down hh he hd h k' H ob hk hk2 hH hob
  simp only[obsGo,Bool.and_eq_true]at h
  obtain⟨h1,h2⟩:=h
  by_cases hkk:k'=k
  ·subst hkk
   have hH0:HH[k']? =some H0:=by
    have:(HH.drop k')[0]? =some H0:=by rw[<-hh];rfl
    simpa using this
   rw[hH0]at hH;injection hH with hH;subst hH
   have:=List.all_eq_true.1 h1 ob hob
   simp only[Bool.or_eq_true,Bool.not_eq_true']at this
   rcases this with ha |ha
   ·have gen:∀ i anc,(!down.testBit i&&decide (anc &&& upMask es=0))=false->(∃m e,m<k'∧EE[m]? =some e∧Reach ops i e)∨(∃m e,k'<=m∧EE[m]? =some e∧anc.testBit e=true):=by
     intro i anc hf
     rw[Bool.and_eq_false_iff]at hf
     rcases hf with hf |hf
     ·left;exact hd i (by simpa using hf)
     ·right
      obtain⟨p,q1,q2⟩:=land_ne (of_decide_eq_false hf)
      have:=upMask_ok es p q2
      rw[he]at this
      obtain⟨m,hm,hm2⟩:=List.getElem_of_mem this
      simp at hm
      exact⟨k'+m,p,by omega,by rw[List.getElem?_eq_getElem (by omega)];simpa using hm2,q1⟩
    cases ob<;>exact .inr (gen _ _ ha)
   ·exact .inl ha
  ·have hlt:k<EE.length:=by omega
   cases es with
   |nil=>have:=congrArg List.length he;simp at this;omega
   |cons e es=>
    simp only at h2
    have hE:EE[k]? =some e:=by
     have:(EE.drop k)[0]? =some e:=by rw[<-he];rfl
     simpa using this
    split at h2
    ·rename_i r hr
     refine ih (k+1) es (down ||| r.anc) ?_ ?_ ?_ h2 k' H ob (by omega) hk2 hH hob
     ·have:(HH.drop k).drop 1=Hs:=by rw[<-hh];rfl
      rw[List.drop_drop]at this;exact this.symm
     ·have:(EE.drop k).drop 1=es:=by rw[<-he];rfl
      rw[List.drop_drop]at this;exact this.symm
     ·intro i hi
      rw[Nat.testBit_or]at hi
      simp only[Bool.or_eq_true]at hi
      rcases hi with hi |hi
      ·obtain⟨m,e',q1,q2⟩:=hd i hi;exact⟨m,e',by omega,q2⟩
      ·exact⟨k,e,by omega,hE,(hM _ _ hr).1 i hi⟩
    ·cases h2
def slotsOf(n:Nat):List Oper->Nat->Option Nat
 | [],acc=>some acc
 |o::l,acc=>
  match o.dst with
  |none=>slotsOf n l acc
  |some d=>if d<n∧acc.testBit d=false then slotsOf n l (acc ||| 2 ^ d)else none
theorem slotsOf_ok{n:Nat}:∀ (l:List Oper)(acc s:Nat),slotsOf n l acc=some s->
 (∀t,acc.testBit t=true->s.testBit t=true)∧(∀(i:Nat) (o:Oper) (d:Nat),l[i]? =some o->o.dst=some d->d<n∧s.testBit d=true∧acc.testBit d=false)∧
 (∀(i i':Nat) (o o':Oper) (d:Nat),l[i]? =some o->l[i']? =some o'->o.dst=some d->o'.dst=some d->i=i'):=by
 intro l
 induction l with
 |nil=>intro acc s h;simp only[slotsOf]at h;injection h with h;subst h;exact⟨fun _ h=>h,fun i o d h=>by simp at h,fun i i' o o' d h=>by simp at h⟩
 |cons o l ih=>
  intro acc s h
  simp only[slotsOf]at h
  split at h
  ·rename_i hd
   obtain⟨g1,g2,g3⟩:=ih _ _ h
   refine⟨g1,fun i o' d ho hdd=> ?_,fun i i' o1 o2 d h1 h2 h3 h4=> ?_⟩
   ·cases i with
    |zero=>simp at ho;subst ho;rw[hd]at hdd;cases hdd
    |succ i=>exact g2 i o' d (by simpa using ho) hdd
   ·cases i with
    |zero=>simp at h1;subst h1;rw[hd]at h3;cases h3
    |succ i=>
     cases i' with
     |zero=>simp at h2;subst h2;rw[hd]at h4;cases h4
     |succ i'=>rw[g3 i i' o1 o2 d (by simpa using h1) (by simpa using h2) h3 h4]
  ·rename_i d hd
   split at h
   ·rename_i hc
    obtain⟨g1,g2,g3⟩:=ih _ _ h
    have hor:∀ t,(acc ||| 2 ^ d).testBit t=(acc.testBit t||decide (d=t)):=fun t=>by rw[Nat.testBit_or,Nat.testBit_two_pow]
    refine⟨fun t ht=>g1 t (by rw[hor,ht];rfl),fun i o' d' ho hdd=> ?_,fun i i' o1 o2 d' h1 h2 h3 h4=> ?_⟩
    ·cases i with
     |zero=>
      simp at ho;subst ho;rw[hd]at hdd;injection hdd with hdd;subst hdd
      exact⟨hc.1,g1 d (by rw[hor];simp),hc.2⟩
     |succ i=>
      obtain⟨k1,k2,k3⟩:=g2 i o' d' (by simpa using ho) hdd
      rw[hor]at k3
      exact⟨k1,k2,by simp at k3;exact k3.1⟩
    ·cases i with
     |zero=>
      simp at h1;subst h1;rw[hd]at h3;injection h3 with h3;subst h3
      cases i' with
      |zero=>rfl
      |succ i'=>
       obtain⟨_,_,k3⟩:=g2 i' o2 d (by simpa using h2) h4
       rw[hor]at k3;simp at k3
     |succ i=>
      cases i' with
      |zero=>
       simp at h2;subst h2;rw[hd]at h4;injection h4 with h4;subst h4
       obtain⟨_,_,k3⟩:=g2 i o1 d (by simpa using h1) h3
       rw[hor]at k3;simp at k3
      |succ i'=>rw[g3 i i' o1 o2 d' (by simpa using h1) (by simpa using h2) h3 h4]
   ·cases h
def reserve{P:Program}(T:TO P)(base:Nat):Nat->List Oper->IHeap->IHeap
 |_,[],H=>H
 |i,o::l,H=>
  match allocOp o.op with
  |some t=>(match ialloc T t with |some (ob,_)=>reserve T base (i+1) l (H.set (base+i) (some ob)) |none=>reserve T base (i+1) l H)
  |none=>reserve T base (i+1) l H
theorem Sim.set_none{j:J}{H:IHeap}{w:World}(hs:Sim j H w){b:Nat}(hb:j b=none)(x:Option IObj):Sim j (H.set b x) w where
 live:=fun c o B d hc hj=>by
  rcases IHeap.get_set hc with⟨rfl,_⟩ |⟨_,h⟩
  ·rw[hb]at hj;cases hj
  ·exact hs.live c o B d h hj
 inj:=fun b1 b2 o1 o2 B d1 d2 h1 h2 j1 j2=>by
  rcases IHeap.get_set h1 with⟨rfl,_⟩ |⟨_,g1⟩
  ·rw[hb]at j1;cases j1
  ·rcases IHeap.get_set h2 with⟨rfl,_⟩ |⟨_,g2⟩
   ·rw[hb]at j2;cases j2
   ·exact hs.inj b1 b2 o1 o2 B d1 d2 g1 g2 j1 j2
 fresh:=hs.fresh
 bound:=hs.bound
 glob:=hs.glob
 far:=hs.far
theorem Sim.raise{j:J}{H:IHeap}{w:World}(hs:Sim j H w)(m:Nat):Sim j {H with next:=H.next+m} w:=
 ⟨hs.live,hs.inj,fun b hb=>hs.fresh b (by simp only at hb;omega),hs.bound,hs.glob,hs.far⟩
theorem reserve_ok{P:Program}(T:TO P){base:Nat}{j:J}{w:World}(hj:∀ b,base<=b->j b=none):∀ (l:List Oper)(i:Nat)(H:IHeap),Sim j H w->Sim j (reserve T base i l H) w:=by
 intro l
 induction l with
 |nil=>intro i H hs;exact hs
 |cons o l ih=>
  intro i H hs
  simp only[reserve]
  split
  ·split
   ·exact ih _ _ (hs.set_none (hj _ (Nat.le_add_right _ _)) _)
   ·exact ih _ _ hs
  ·exact ih _ _ hs
theorem reserve_next{P:Program}(T:TO P){base:Nat}:∀ (l:List Oper)(i:Nat)(H:IHeap),(reserve T base i l H).next=H.next:=by
 intro l
 induction l with
 |nil=>intro i H;rfl
 |cons o l ih=>
  intro i H
  simp only[reserve]
  split
  ·split
   ·rw[ih];rfl
   ·exact ih _ _
  ·exact ih _ _
def forget:List Oper->Env->Env
 | [],env=>env
 |o::l,env=>forget l (putE o.dst none env)
theorem forget_ok:∀ (l:List Oper)(env:Env)(t:Nat)(x:IV),(forget l env).get t=some x->env.get t=some x∧∀ o∈l,o.dst≠some t:=by
 intro l
 induction l with
 |nil=>intro env t x h;exact⟨h,fun o ho=>by cases ho⟩
 |cons o l ih=>
  intro env t x h
  obtain⟨h1,h2⟩:=ih _ _ _ h
  unfold putE at h1
  split at h1
  ·rename_i hd
   exact⟨h1,fun o' ho'=>by
    rcases List.mem_cons.1 ho' with rfl |ho'
    ·rw[hd];simp
    ·exact h2 o' ho'⟩
  ·rename_i d hd
   rcases Trie.get_set _ _ _ _ _ _ h1 with⟨_,h3⟩ |⟨h3,h4⟩
   ·cases h3
   ·exact⟨h4,fun o' ho'=>by
     rcases List.mem_cons.1 ho' with rfl |ho'
     ·rw[hd];simp;exact fun h=>h3 h.symm
     ·exact h2 o' ho'⟩
def lateOk(M:Rows')(late:List (Nat×Nat)):Nat->List Oper->Bool
 |_,[]=>true
 |q,o::l=>
  (match o.dst with
  |none=>true
  |some d=>(match M.get q with |some r=>late.all (fun x=> !x.2.testBit d||r.anc.testBit x.1) |none=>false))&&lateOk M late (q+1) l
theorem lateOk_ok{ops:Array Oper}{M:Rows'}(hM:∀ p r,M.get p=some r->RowOk ops p r){late:List (Nat×Nat)}:∀ (l:List Oper)(k:Nat),ops.toList.drop k=l->lateOk M late k l=true->
 ∀(i m t:Nat),(i,m)∈late->m.testBit t=true->∀ (q:Nat) (o:Oper),k<=q->ops[q]? =some o->o.dst=some t->Reach ops i q:=by
 intro l
 induction l with
 |nil=>
  intro k hk _ i m t _ _ q o hq ho _
  have h1:ops.size<=k:=by have:=congrArg List.length hk;simp at this;omega
  have:=(Array.getElem?_eq_some_iff.1 ho).1
  omega
 |cons o0 l ih=>
  intro k hk h i m t hm ht q o hq ho hd
  simp only[lateOk,Bool.and_eq_true]at h
  by_cases hqk:q=k
  ·subst hqk
   have ho0:ops[q]? =some o0:=by
    have:(ops.toList.drop q)[0]? =some o0:=by rw[hk];rfl
    simpa using this
   rw[ho0]at ho;injection ho with ho;subst ho
   rw[hd]at h
   simp only at h
   have h1:=h.1
   split at h1
   ·rename_i r hr
    have:=List.all_eq_true.1 h1 _ hm
    simp only[ht,Bool.not_true,Bool.false_or]at this
    exact(hM _ _ hr).1 i this
   ·cases h1
  ·have hk':ops.toList.drop (k+1)=l:=by
    have:(ops.toList.drop k).drop 1=l:=by rw[hk];rfl
    rw[List.drop_drop]at this;exact this
   exact ih (k+1) hk' h.2 i m t hm ht q o (by omega) ho hd
def drawFrom{P:Program}(T:TO P)(C:Oracle)(Y:YOracle)(ops:Array Oper)(s:IState)(slots:Nat)(H0:IHeap):Option DS×Option (IOut×IState):=
 match dpass T C Y ops s.H.next slots ops.toList ⟨0,.leaf,s.env,[],[H0],[],0,[],none,[]⟩with
 |none=>(none,none)
 |some F=>
  (some F,if obsGo T s.H.next F.M F.obs 0 F.Hs.reverse F.es.reverse 0=true∧(F.late.isEmpty||lateOk F.M F.late 0 ops.toList)=true then
   (match F.pan,F.Hs with
   |none,H::_=>some (.normal,⟨F.env,s.ds,H⟩)
   |some (_,x,H'),_=>some (.pan x,⟨forget ops.toList s.env,s.ds,H'⟩)
   |_,_=>none)
  else none)
def reserve2(base:Nat):List Ob->IHeap->IHeap
 | [],H=>H
 | .new i _ ob _::l,H=>reserve2 base l (H.set (base+i) (some ob))
 |_::l,H=>reserve2 base l H
def evDraw{P:Program}(T:TO P)(C:Oracle)(Y:YOracle):Draws:=fun n ops s=>
 match slotsOf n ops.toList 0 with
 |none=>none
 |some slots=>
  match drawFrom T C Y ops s slots (reserve T s.H.next 0 ops.toList {s.H with next:=s.H.next+ops.size})with
  |(_,some r)=>some r
  |(some F,none)=>(drawFrom T C Y ops s slots (reserve2 s.H.next F.obs (reserve T s.H.next 0 ops.toList {s.H with next:=s.H.next+ops.size}))).2
  |(none,none)=>none
theorem reserve2_ok{base:Nat}{j:J}{w:World}(hj:∀ b,base<=b->j b=none):∀ (l:List Ob)(H:IHeap),Sim j H w->Sim j (reserve2 base l H) w:=by
 intro l
 induction l with
 |nil=>intro H h;exact h
 |cons ob l ih=>
  intro H h
  cases ob with
  |new i anc ob k=>exact ih _ (Sim.set_none h (hj _ (Nat.le_add_right _ _)) _)
  |read=>exact ih _ h
theorem reserve2_next{base:Nat}:∀ (l:List Ob)(H:IHeap),(reserve2 base l H).next=H.next:=by
 intro l
 induction l with
 |nil=>intro H;rfl
 |cons ob l ih=>intro H;cases ob<;>simp only[reserve2]<;>rw[ih]<;>rfl
theorem filt(i:Nat)(p q:Nat->Bool)(hp:p i=true)(hqi:q i=false)(hq:∀ x,x≠i->q x=p x):∀ (l:List Nat),l.Nodup->i∈l->(l.filter q).length+1=(l.filter p).length:=by
 have same:∀ l:List Nat,i∉l->l.filter q=l.filter p:=by
  intro l
  induction l with
  |nil=>intro _;rfl
  |cons x l ih=>
   intro h
   simp only[List.mem_cons,not_or]at h
   rw[List.filter_cons,List.filter_cons,hq x (Ne.symm h.1),ih h.2]
 intro l
 induction l with
 |nil=>intro _ h;cases h
 |cons x l ih=>
  intro hn hm
  rw[List.nodup_cons]at hn
  by_cases hx:x=i
  ·subst hx
   rw[List.filter_cons,List.filter_cons,hqi,hp,same l hn.1];simp
  ·rcases List.mem_cons.1 hm with rfl |hm
   ·exact absurd rfl hx
   ·have:=ih hn.2 hm
    rw[List.filter_cons,List.filter_cons,hq x hx]
    split
    ·simp;exact this
    ·exact this
theorem usesL_ok:∀ (l:List Operand)(t:Nat),Operand.tmp t∈l->(usesL l).testBit t=true:=by
 intro l
 induction l with
 |nil=>intro t h;cases h
 |cons y l ih=>
  intro t h
  rcases List.mem_cons.1 h with rfl |h2
  ·simp only[usesL,Nat.testBit_or,Nat.testBit_two_pow];simp
  ·have:=ih t h2
   cases y<;>simp only[usesL]<;>first |exact this |(rw[Nat.testBit_or,this];simp)
theorem uses_op{ops:Array Oper}{o:Oper}{t:Nat}(h:Operand.tmp t∈o.op.operands):(usesM ops o).testBit t=true:=by
 unfold usesM
 rw[Nat.testBit_or,usesL_ok _ t (by simpa using h)];rfl
theorem uses_guard{ops:Array Oper}{o:Oper}{g:Nat}{want:Bool}{t:Nat}(hg:o.guard=some (g,want))(ht:(ops[g]?).bind (·.dst)=some t):(usesM ops o).testBit t=true:=by
 unfold usesM
 rw[Nat.testBit_or,hg]
 simp only[ht,dbit,Nat.testBit_two_pow]
 simp
theorem iwanted_at{ops:Array Oper}{o:Oper}{env:Env}{t:Bool}(h:iwanted ops o env=some t){j:J}{w:World}{a:Act}
 (he:∀ g want d x,o.guard=some (g,want)->(ops[g]?).bind (·.dst)=some d->env.get d=some x->d<a.tmps.size∧VR j w x (a.tmps.getD d undef)):
 Region.wanted o (yielded ops a.tmps)=t:=by
 unfold iwanted at h
 unfold Region.wanted
 split at h
 ·rename_i hg;injection h with h;subst h;rw[hg]
 ·rename_i g want hg
  rw[hg]
  simp only[yielded]
  split at h
  ·rename_i hd;injection h with h;subst h;rw[hd];rfl
  ·rename_i d hd
   rw[hd]
   split at h
   ·rename_i b hb
    injection h with h;subst h
    obtain⟨h1,h2⟩:=he g want d _ hg hd hb
    have e1:a.tmps[d]? =some (a.tmps.getD d undef):=by simp[h1]
    generalize hu:a.tmps.getD d undef=u at h2 e1
    cases h2
    simp only[Option.bind_some,e1]
    simp
   ·rename_i vs hb
    injection h with h;subst h
    obtain⟨h1,h2⟩:=he g want d _ hg hd hb
    have e1:a.tmps[d]? =some (a.tmps.getD d undef):=by simp[h1]
    generalize hu:a.tmps.getD d undef=u at h2 e1
    cases h2
    simp only[Option.bind_some,e1]
    rfl
   ·cases h
def On(listed:Array Bool)(i:Nat):Prop:=listed.getD i false=true
structure Inv(n:Nat)(ops:Array Oper)(base:Nat)(F:DS)(env0:Env)(ds:List IDef)(j0:J)(w0:World)(listed:Array Bool)(k:Nat)(j:J)(a:Act)(w:World):Prop where
 size:listed.size=ops.size
 closed:∀ (i:Nat) (o:Oper),ops[i]? =some o->On listed i->∀ e∈o.after,Region.binds .any e=true->On listed e.on
 pre:∀ m e,nth F.es m=some e->(On listed e↔m<k)
 kle:k<=F.es.length
 nopan:∀ m x H,F.pan=some (m,x,H)->¬ On listed m
 sim:∃ H,nth F.Hs k=some H∧Sim j H w
 al:∀ i,i<ops.size->¬ On listed i->j (base+i)=none
 vals:∀ (i:Nat) (o:Oper) (d:Nat) (x:IV),ops[i]? =some o->o.dst=some d->On listed i->nth F.vals i=some x->d<a.tmps.size∧VR j w x (a.tmps.getD d undef)
 old:∀ t x,env0.get t=some x->(∀(p:Nat) (o:Oper),ops[p]? =some o->o.dst=some t->¬ On listed p)->t<a.tmps.size∧VR j w x (a.tmps.getD t undef)
 n:n<=a.tmps.size
 ds:DsR j w ds a.defers
 newl:∀ i,On listed i->∀ anc ob ki,Ob.new i anc ob ki∈F.obs->ki<=k
 ext:Ext j0 w0 j w
 stay:Stay base j0 j
theorem reach_on{ops:Array Oper}{listed:Array Bool}(hc:∀ (i:Nat)(o:Oper),ops[i]? =some o->On listed i->∀ e∈o.after,Region.binds .any e=true->On listed e.on){p i:Nat}(h:Reach ops p i):
 (∀o,ops[i]? =some o->∀ e∈o.after,Region.binds .any e=true->On listed e.on)->On listed p:=by
 induction h with
 |dir ho he hb hp=>intro hh;subst hp;exact hh _ ho _ he hb
 |tr ho he hb _ ih=>intro hh;exact ih (fun o' ho'=>hc _ o' ho' (hh _ ho _ he hb))
end Go.Eng
namespace Go.Eng
open Go.RowKit
variable [Far]
theorem on_set{listed:Array Bool}{i q:Nat}(hi:i<listed.size):On (listed.setIfInBounds i true) q↔(q=i∨On listed q):=by
 unfold On
 by_cases h:q=i
 ·subst h;simp[hi]
 ·rw[getD_set_ne false (Ne.symm h)];simp[h]
section
variable {P:Program}{n:Nat}{ops:Array Oper}{base slots:Nat}{F:DS}{env0:Env}{ds:List IDef}{j0:J}{w0:World}{listed:Array Bool}{k:Nat}{j:J}{a:Act}{w:World}
theorem Inv.put(hinv:Inv n ops base F env0 ds j0 w0 listed k j a w){i:Nat}{o:Oper}(ho:ops[i]? =some o)(hoff:¬ On listed i)(hready:∀ e∈o.after,Region.binds .any e=true->On listed e.on)
 (hdist:∀ (p q:Nat) (x y:Oper) (d:Nat),ops[p]? =some x->ops[q]? =some y->x.dst=some d->y.dst=some d->p=q) (hdn:∀ d,o.dst=some d->d<n)
 {k':Nat} {j':J} {w':World} {v:Value} (hE:Ext j w j' w') (hsim:∃ H,nth F.Hs k'=some H∧Sim j' H w') (hk:k'<=F.es.length)
 (hpre:∀ m e,nth F.es m=some e->((e=i∨On listed e)↔m<k')) (hpan:∀ m x H,F.pan=some (m,x,H)->m≠i)
 (hal:∀ q,q<ops.size->q≠i->¬ On listed q->j' (base+q)=none) (hstay:Stay base j j') (hkk:k<=k') (hnew:∀ anc ob ki,Ob.new i anc ob ki∈F.obs->ki<=k') (hx:∀ x,nth F.vals i=some x->VR j' w' x v):
 Inv n ops base F env0 ds j0 w0 (listed.setIfInBounds i true) k' j' (a.put o.dst v) w':=by
 have hi:i<ops.size:=(Array.getElem?_eq_some_iff.1 ho).1
 have hi':i<listed.size:=by rw[hinv.size];exact hi
 have hsz:(a.put o.dst v).tmps.size=a.tmps.size:=by cases o.dst<;>simp[Act.put]
 have hdef:(a.put o.dst v).defers=a.defers:=by cases o.dst<;>rfl
 have hget:∀ t,o.dst≠some t->(a.put o.dst v).tmps.getD t undef=a.tmps.getD t undef:=by
  intro t ht
  cases hd:o.dst with
  |none=>rfl
  |some d=>
   have hne:d≠t:=fun h=>ht (by rw[hd,h])
   simp[Act.put,Array.getElem?_setIfInBounds_ne hne]
 constructor
 ·simp[hinv.size]
 ·intro q x hq hon e he hb
  rw[on_set hi']at hon ⊢
  rcases hon with rfl |hon
  ·rw[ho]at hq;injection hq with hq;subst hq;exact .inr (hready e he hb)
  ·exact .inr (hinv.closed q x hq hon e he hb)
 ·intro m e he;rw[on_set hi'];exact hpre m e he
 ·exact hk
 ·intro m x H hp;rw[on_set hi'];rintro(h |h)
  ·exact hpan m x H hp h
  ·exact hinv.nopan m x H hp h
 ·exact hsim
 ·intro q hq hoffq
  rw[on_set hi',not_or]at hoffq
  exact hal q hq hoffq.1 hoffq.2
 ·intro q o' d x hq hd hon hv
  rw[on_set hi']at hon
  rw[hsz]
  by_cases hqi:q=i
  ·subst hqi
   rw[ho]at hq;injection hq with hq;subst hq
   have hdlt:d<a.tmps.size:=Nat.lt_of_lt_of_le (hdn d hd) hinv.n
   refine⟨hdlt,?_⟩
   have:(a.put o.dst v).tmps.getD d undef=v:=by rw[hd];simp[Act.put,hdlt]
   rw[this];exact hx x hv
  ·have hon':=hon.resolve_left hqi
   obtain⟨h1,h2⟩:=hinv.vals q o' d x hq hd hon' hv
   refine⟨h1,?_⟩
   rw[hget d (fun h=>hqi (hdist q i o' o d hq ho hd h))]
   exact h2.mono hE
 ·intro t x ht hno
  obtain⟨h1,h2⟩:=hinv.old t x ht (fun p y hp hd hon=>hno p y hp hd ((on_set hi').2 (.inr hon)))
  rw[hsz,hget t (fun hd=>hno i o ho hd ((on_set hi').2 (.inl rfl)))]
  exact⟨h1,h2.mono hE⟩
 ·rw[hsz];exact hinv.n
 ·rw[hdef];exact hinv.ds.mono hE
 ·intro q hon anc ob ki hm
  rw[on_set hi']at hon
  rcases hon with rfl |hon
  ·exact hnew anc ob ki hm
  ·exact Nat.le_trans (hinv.newl q hon anc ob ki hm) hkk
 ·exact hinv.ext.trans hE
 ·exact hinv.stay.trans hstay (Nat.le_refl _)
theorem slot_ok(hinv:Inv n ops base F env0 ds j0 w0 listed k j a w){i:Nat}{o:Oper}(ho:ops[i]? =some o)(hready:∀ e∈o.after,Region.binds .any e=true->On listed e.on)
 (hdist:∀ (p q:Nat) (x y:Oper) (d:Nat),ops[p]? =some x->ops[q]? =some y->x.dst=some d->y.dst=some d->p=q)
 (hslot:∀ (p:Nat) (x:Oper) (d:Nat),ops[p]? =some x->x.dst=some d->slots.testBit d=true) (hlt:∀ p,Reach ops p i->p<i)
 {env:Env} (hE:EnvF ops env0 F.vals i env) {ad:Nat} (had:∀ t,ad.testBit t=true->∃ p o,Reach ops p i∧ops[p]? =some o∧o.dst=some t)
 (huse:∀ t,(usesM ops o).testBit t=true->slots.testBit t=true->ad.testBit t=true∨∃ m,(i,m)∈F.late∧m.testBit t=true) (hlate:∀ (i m t:Nat),(i,m)∈F.late->m.testBit t=true->∀ (q:Nat) (o:Oper),ops[q]? =some o->o.dst=some t->Reach ops i q) (hoff:¬ On listed i) (hltR:∀ p q,Reach ops p q->p<q) {t:Nat} (ht:(usesM ops o).testBit t=true) {x:IV} (hx:env.get t=some x):t<a.tmps.size∧VR j w x (a.tmps.getD t undef):=by
 have key:∀ (p:Nat) (y:Oper),ops[p]? =some y->y.dst=some t->(p<i∧On listed p)∨(i<p∧¬ On listed p):=by
  intro p y hp hd
  have hs:=hslot p y t hp hd
  rcases huse t ht hs with h |⟨m,hm1,hm2⟩
  ·obtain⟨p',y',q1,q2,q3⟩:=had t h
   have:=hdist p p' y y' t hp q2 hd q3
   subst this
   exact .inl ⟨hltR _ _ q1,reach_on hinv.closed q1 (fun o' ho'=>by rw[ho]at ho';injection ho' with ho';subst ho';exact hready)⟩
  ·have hr:=hlate i m t hm1 hm2 p y hp hd
   exact .inr ⟨hltR _ _ hr,fun hon=>hoff (reach_on hinv.closed hr (fun o' ho'=>hinv.closed p o' ho' hon))⟩
 rcases hE t x hx with⟨p,y,h1,h2,h3,h4⟩ |⟨h1,h2⟩
 ·rcases key p y h2 h3 with h |h
  ·exact hinv.vals p y t x h2 h3 h.2 h4
  ·omega
 ·refine hinv.old t x h1 fun p y hp hd=> ?_
  rcases key p y hp hd with h |h
  ·exact absurd hd (fun hd=>h2 p y h.1 hp hd)
  ·exact h.2
theorem operand_ok(hinv:Inv n ops base F env0 ds j0 w0 listed k j a w){i:Nat}{o:Oper}(ho:ops[i]? =some o)(hready:∀ e∈o.after,Region.binds .any e=true->On listed e.on)
 (hdist:∀ (p q:Nat) (x y:Oper) (d:Nat),ops[p]? =some x->ops[q]? =some y->x.dst=some d->y.dst=some d->p=q)
 (hslot:∀ (p:Nat) (x:Oper) (d:Nat),ops[p]? =some x->x.dst=some d->slots.testBit d=true) (hlt:∀ p,Reach ops p i->p<i)
 {env:Env} (hE:EnvF ops env0 F.vals i env) {ad:Nat} (had:∀ t,ad.testBit t=true->∃ p o,Reach ops p i∧ops[p]? =some o∧o.dst=some t)
 (huse:∀ t,(usesM ops o).testBit t=true->slots.testBit t=true->ad.testBit t=true∨∃ m,(i,m)∈F.late∧m.testBit t=true) (hlate:∀ (i m t:Nat),(i,m)∈F.late->m.testBit t=true->∀ (q:Nat) (o:Oper),ops[q]? =some o->o.dst=some t->Reach ops i q) (hoff:¬ On listed i) (hltR:∀ p q,Reach ops p q->p<q):∀ y∈o.op.operands,VR j w (evalI env y) (a.eval y):=by
 intro y hy
 cases y with
 |tmp t=>
  simp only[evalI,Act.eval]
  cases ht:env.get t with
  |none=>exact .junk _
  |some x=>exact(slot_ok hinv ho hready hdist hslot hlt hE had huse hlate hoff hltR (uses_op hy) ht).2
 |const v=>exact ofV_ok j w v
 |global g=>exact .gl
 |func f=>exact .fn rfl rfl (fun k hk=>by simp at hk) (fun k hk=>by simp at hk)
end
theorem Sim.grew{ops:Array Oper}{base:Nat}{obs:List Ob}{m:Nat}{H H':IHeap}(hg:Grew ops base obs m H H'){j:J}{w:World}(hs:Sim j H w)
 (hn:∀ q anc o,q<ops.size->Ob.new q anc o m∈obs->j (base+q)=none):Sim j H' w where
 live:=fun b o B d hb hj=>by
  rcases hg.2.2 b o hb with h |⟨q,anc,h1,h2,h3⟩
  ·exact hs.live b o B d h hj
  ·rw[h2,hn q anc o h1 h3]at hj;cases hj
 inj:=fun b1 b2 o1 o2 B d1 d2 h1 h2 j1 j2=>by
  rcases hg.2.2 b1 o1 h1 with g1 |⟨q,anc,q1,q2,q3⟩
  ·rcases hg.2.2 b2 o2 h2 with g2 |⟨q,anc,q1,q2,q3⟩
   ·exact hs.inj b1 b2 o1 o2 B d1 d2 g1 g2 j1 j2
   ·rw[q2,hn q anc o2 q1 q3]at j2;cases j2
  ·rw[q2,hn q anc o1 q1 q3]at j1;cases j1
 fresh:=fun b hb=>hs.fresh b (by rw[hg.1]at hb;exact hb)
 bound:=hs.bound
 glob:=fun g cs h=>hs.glob g cs (by rw[hg.2.1]at h;exact h)
 far:=hs.far
theorem op_any{P:Program}(T:TO P){C:Oracle}(hC:CallOk P C){Y:YOracle}(hY:YOk P Y){n:Nat}{ops:Array Oper}{base slots:Nat}{F:DS}{env0:Env}{ds:List IDef}{j0:J}{w0:World}{listed:Array Bool}{k:Nat}{j:J}{a:Act}{w:World}
 (hinv:Inv n ops base F env0 ds j0 w0 listed k j a w) (hwf:WF ops env0 (base+ops.size) F)
 (hfact:∀ i,i<ops.size->Fact T C Y ops base slots env0 F i)
 (hobs:∀ (k':Nat) (H:IHeap) (ob:Ob),k'<=F.es.length->nth F.Hs k'=some H->ob∈F.obs->
  okAt T base k' H ob=true∨(∃m e,m<k'∧nth F.es m=some e∧Reach ops (match ob with | .read i .. | .new i .. =>i) e)∨
   (∃m e,k'<=m∧nth F.es m=some e∧(match ob with | .read _ _ _ anc _ | .new _ anc _ _=>anc).testBit e=true))
 (hdist:∀ (p q:Nat) (x y:Oper) (d:Nat),ops[p]? =some x->ops[q]? =some y->x.dst=some d->y.dst=some d->p=q)
 (hslot:∀ (p:Nat) (x:Oper) (d:Nat),ops[p]? =some x->x.dst=some d->d<n∧slots.testBit d=true)
 (hlate:∀ (i m t:Nat),(i,m)∈F.late->m.testBit t=true->∀ (q:Nat) (o:Oper),ops[q]? =some o->o.dst=some t->Reach ops i q)
 {i:Nat} {o:Oper} (ho:ops[i]? =some o) (hoff:¬ On listed i) (hready:∀ e∈o.after,Region.binds .any e=true->On listed e.on)
 {ro:Option Nat} {K:Act->World->Prop} {Q:Exit->Act->World->Prop}
 (hK:∀ k' j' a' w',Inv n ops base F env0 ds j0 w0 (listed.setIfInBounds i true) k' j' a' w'->K a' w')
 (hQ:∀ (x:IV) (H':IHeap) (m:Nat) (v:Value) (j':J) (w':World),F.pan=some (m,x,H')->Sim j' H' w'->Ext j w j' w'->Stay base j j'->VR j' w' x v->Q (.panic [{v,recovered:=false}]) a w'):
 wpOpIn (Wf ro) 0 P ops Q i K a w:=by
 have hi:i<ops.size:=(Array.getElem?_eq_some_iff.1 ho).1
 have hltR:∀ p q,Reach ops p q->p<q:=by
  intro p q h
  induction h with
  |dir ho he hb hp=>
   rename_i q' o' e'
   obtain⟨o2,env,anc,ad,f1,f2,_⟩:=hfact _ (Array.getElem?_eq_some_iff.1 ho).1
   rw[ho]at f1;injection f1 with f1;subst f1
   rw[<-hp];exact f2 _ he hb
  |tr ho he hb _ ih=>
   obtain⟨o2,env,anc,ad,f1,f2,_⟩:=hfact _ (Array.getElem?_eq_some_iff.1 ho).1
   rw[ho]at f1;injection f1 with f1;subst f1
   exact Nat.lt_trans ih (f2 _ he hb)
 have forced:∀ p,Reach ops p i->On listed p:=fun p hp=>reach_on hinv.closed hp (fun o' ho'=>by rw[ho]at ho';injection ho' with ho';subst ho';exact hready)
 obtain⟨o2,env,anc,ad,f1,f2,f3,f4,f5⟩:=hfact i hi
 rw[ho]at f1;injection f1 with f1;subst f1
 rcases f5 with hdead |⟨huse,hE,f5⟩
 ·-- what comes after the panic has no turn
  exfalso
  unfold deadAt at hdead
  split at hdead
  ·cases hdead
  ·rename_i m x H hp
   exact hinv.nopan m x H hp (forced m (f3 m hdead))
 ·have hops:=operand_ok hinv ho hready hdist (fun p x d h1 h2=>(hslot p x d h1 h2).2) (fun p=>hltR p i) hE f4 huse hlate hoff hltR
  have hwant:∀ b,iwanted ops o env=some b->Region.wanted o (yielded ops a.tmps)=b:=fun b hb=>
   iwanted_at hb (j:=j) (w:=w) fun g want d x hg hd hx=>slot_ok hinv ho hready hdist (fun p x d h1 h2=>(hslot p x d h1 h2).2) (fun p=>hltR p i) hE f4 huse hlate hoff hltR (uses_guard hg hd) hx
  have noEff:i∉F.es->∀ m e,nth F.es m=some e->((e=i∨On listed e)↔m<k):=by
   intro hne m e he
   rw[<-hinv.pre m e he]
   refine⟨fun h=>h.resolve_left ?_,.inr⟩
   rintro rfl;exact hne (nth_mem he)
  obtain⟨Hk,hHk,hsim⟩:=hinv.sim
  have hbase:base+ops.size<=Hk.next:=hwf.next Hk (nth_mem hHk)
  have unOn:∀ {m e},nth F.es m=some e->anc.testBit e=true->m<k:=fun{m e} he hb=>(hinv.pre m e he).1 (forced e (f3 e hb))
  have alS:∀ {j':J},Stay Hk.next j j'->∀ q,q<ops.size->q≠i->¬ On listed q->j' (base+q)=none:=by
   intro j' hst q hq _ hoffq
   rw[hst (base+q) (by omega)];exact hinv.al q hq hoffq
  have hnewk:∀ anc ob ki,Ob.new i anc ob ki∈F.obs->ki<=k:=by
   intro anc' ob ki hm
   rcases hobs k Hk _ hinv.kle hHk hm with h |⟨m,e,h1,h2,h3⟩ |⟨m,e,h1,h2,h3⟩
   ·simp only[okAt,Bool.and_eq_true]at h
    exact Nat.le_of_ble_eq_true h.1
   ·exact absurd (reach_on hinv.closed h3 (fun o' ho'=>hinv.closed e o' ho' ((hinv.pre m e h2).2 h1))) hoff
   ·have:=(hinv.pre m e h2).1 (forced e (hwf.obR i anc' ob ki hm e h3));omega
  rcases f5 with⟨hw,hne,hv⟩ |⟨hw,hval⟩
  ·-- not wanted
   unfold wpOpIn
   simp only[ho,hwant _ hw,Bool.false_eq_true,if_false]
   refine⟨fun _ _=>trivial,?_⟩
   refine hK k j _ w (hinv.put ho hoff hready hdist (fun d hd=>(hslot i o d ho hd).1) (Ext.refl _ _) hinv.sim hinv.kle (noEff hne.1) hne.2 (alS (Stay.refl _ _)) (Stay.refl _ _) (Nat.le_refl _) hnewk (fun x hx=> ?_))
   ·rw[hv]at hx;injection hx with hx;subst hx;exact undef_ok j w
  ·have closedOn:∀ e,On listed e->∀ p,Reach ops p e->On listed p:=fun e he p hp=>reach_on hinv.closed hp (fun o' ho'=>hinv.closed e o' ho' he)
   unfold wpOpIn
   simp only[ho,hwant _ hw,if_true]
   have hdn:∀ d,o.dst=some d->d<n:=fun d hd=>(hslot i o d ho hd).1
   have pureCase:i∉F.es->NP F i->∀ x,nth F.vals i=some x->istep T Hk (evalI env) o=some (.val x)->o.wpIn (Wf ro) 0 P a w K Q:=by
    intro q1 q2 x hx hst
    refine wpIn_of_wp (.inr (istep_nodefer T hst)) ?_
    obtain⟨v,hv,hxv⟩:=istep_ok T hst hsim hops
    unfold Oper.wp;rw[hv]
    exact hK k j _ w (hinv.put ho hoff hready hdist hdn (Ext.refl _ _) hinv.sim hinv.kle (noEff q1) q2 (alS (Stay.refl _ _)) (Stay.refl _ _) (Nat.le_refl _) hnewk (fun y hy=>by rw[hx]at hy;injection hy with hy;subst hy;exact hxv))
   rcases hval with⟨⟨q1,q2⟩,x,H,hx,hnh,hst⟩ |⟨⟨q1,q2⟩,x,hx,hob⟩ |⟨⟨q1,q2⟩,ob,f,ki,H0,hst0,hnh,hx,hob⟩ |⟨q2,m,H,x,H1,H',hm,hH,hH',hev,hgrew,hx,hanc⟩ |⟨q1,x,H,H',hp,hH,hev,hanc⟩
   ·exact pureCase q1 q2 x hx (noHeap_ok T hnh hst)
   ·refine pureCase q1 q2 x hx ?_
    rcases hobs k Hk _ hinv.kle hHk hob with h |⟨m,e,h1,h2,h3⟩ |⟨m,e,h1,h2,h3⟩
    ·simp only[okAt]at h
     split at h
     ·rename_i y hy;rw[hy,same_ok _ _ _ h]
     ·cases h
    ·exact absurd (closedOn e ((hinv.pre m e h2).2 h1) i h3) hoff
    ·have:=unOn h2 h3;omega
   ·have hget:∀ o',Hk.get (base+i)=some o'->o'=ob:=by
     intro o' ho'
     rcases hobs k Hk _ hinv.kle hHk hob with h |⟨m,e,h1,h2,h3⟩ |⟨m,e,h1,h2,h3⟩
     ·simp only[okAt,ho',Bool.and_eq_true]at h;exact osame_ok h.2
     ·exact absurd (closedOn e ((hinv.pre m e h2).2 h1) i h3) hoff
     ·have:=unOn h2 h3;omega
    have hst:istep T Hk (evalI env) o=some (.new ob f):=noHeap_new T hnh hst0
    obtain⟨v,w',hv,e1,e2,e3,e4,e5,e6⟩:=istep_ok T hst hsim hops
    have hβ:j (base+i)=none:=hinv.al i hi hoff
    obtain⟨g1,g2⟩:=e6 _ hβ
    have hX:=Ext.new (d:=0) hβ e1 e2 e3 e4 e5
    have hS:=Sim.new hsim hβ (by omega) hget e1 e2 e3 e4 e5 g1
    refine wpIn_of_wp (.inr (istep_nodefer T hst)) ?_
    unfold Oper.wp;rw[hv]
    refine hK k _ _ w' (hinv.put ho hoff hready hdist hdn hX ⟨Hk,hHk,hS⟩ hinv.kle (noEff q1) q2 (fun q hq hne hoffq=> ?_) (fun b hb=>J.put_other _ _ (by omega)) (Nat.le_refl _) hnewk (fun y hy=>by rw[hx]at hy;injection hy with hy;subst hy;exact g2))
    rw[J.put_other _ _ (by omega)];exact hinv.al q hq hoffq
   ·have hkm:k=m:=by
     have h1:¬ m<k:=fun h=>hoff ((hinv.pre m i hm).2 h)
     by_cases hm0:m=0
     ·omega
     ·obtain⟨e,he⟩:=nth_some (l:=F.es) (i:=m - 1) (by have:=nth_lt hm;omega)
      have:=unOn he (hanc (m - 1) e (by omega) he)
      omega
    subst hkm
    rw[hHk]at hH;injection hH with hH;subst hH
    obtain⟨hle,hok⟩:=evVal_ok T C Y hC hY hev
    refine hok ro j w a hsim hops K Q ?_
    intro v j' w' s1 s2 s3 s4
    have s1':Sim j' H' w':=Sim.grew hgrew s1 (fun q anc' o' hq hm'=>by
     rw[s3 (base+q) (by omega)]
     refine hinv.al q hq fun hon=> ?_
     have:=hinv.newl q hon _ _ _ hm'
     omega)
    refine hK (k+1) j' _ w' (hinv.put ho hoff hready hdist hdn s2 ⟨H',hH',s1'⟩ (nth_lt hm) ?_ q2 (alS s3) (fun b hb=>s3 b (by omega)) (Nat.le_succ _) (fun a b c h=>Nat.le_succ_of_le (hnewk a b c h)) (fun y hy=>by rw[hx]at hy;injection hy with hy;subst hy;exact s4))
    intro m2 e he
    by_cases hmm:m2=k
    ·subst hmm;rw[hm]at he;injection he with he;subst he
     exact⟨fun _=>Nat.lt_succ_self _,fun _=>.inl rfl⟩
    ·have hei:e≠i:=by
      rintro rfl
      rcases Nat.lt_or_ge m2 k with h |h
      ·have:=hwf.mono m2 k _ _ h he hm;omega
      ·have:=hwf.mono k m2 _ _ (by omega) hm he;omega
     rw[or_iff_right hei,hinv.pre m2 e he]
     omega
   ·have hkm:k=F.es.length:=by
     have:=hinv.kle
     by_cases h0:F.es.length=0
     ·omega
     ·obtain⟨e,he⟩:=nth_some (l:=F.es) (i:=F.es.length - 1) (by omega)
      have:=unOn he (hanc _ e he)
      omega
    subst hkm
    rw[hHk]at hH;injection hH with hH;subst hH
    obtain⟨hle,hok⟩:=evVal_ok T C Y hC hY hev
    refine hok ro j w a hsim hops K Q ?_
    intro v j' w' s1 s2 s3 s4
    exact hQ x H' i v j' w' hp s1 s2 (fun b hb=>s3 b (by omega)) s4
theorem off_none(N i:Nat):¬ On (Array.replicate N false) i:=by
 unfold On
 rw[Array.getD_eq_getD_getElem?]
 by_cases h:i<N<;>simp[h]
theorem any_order{P:Program}(T:TO P){C:Oracle}(hC:CallOk P C){Y:YOracle}(hY:YOk P Y){n:Nat}{ops:Array Oper}{base slots:Nat}{F:DS}{env0:Env}{ds:List IDef}{j0:J}{w0:World}
 (hwf:WF ops env0 (base+ops.size) F)
 (hfact:∀ i,i<ops.size->Fact T C Y ops base slots env0 F i)
 (hobs:∀ (k':Nat) (H:IHeap) (ob:Ob),k'<=F.es.length->nth F.Hs k'=some H->ob∈F.obs->
  okAt T base k' H ob=true∨(∃m e,m<k'∧nth F.es m=some e∧Reach ops (match ob with | .read i .. | .new i .. =>i) e)∨
   (∃m e,k'<=m∧nth F.es m=some e∧(match ob with | .read _ _ _ anc _ | .new _ anc _ _=>anc).testBit e=true))
 (hdist:∀ (p q:Nat) (x y:Oper) (d:Nat),ops[p]? =some x->ops[q]? =some y->x.dst=some d->y.dst=some d->p=q)
 (hslot:∀ (p:Nat) (x:Oper) (d:Nat),ops[p]? =some x->x.dst=some d->d<n∧slots.testBit d=true)
 (hlate:∀ (i m t:Nat),(i,m)∈F.late->m.testBit t=true->∀ (q:Nat) (o:Oper),ops[q]? =some o->o.dst=some t->Reach ops i q)
 {ro:Option Nat} {Q:Exit->Act->World->Prop}
 (hN:∀ listed k j a w,Inv n ops base F env0 ds j0 w0 listed k j a w->(∀i,i<ops.size->On listed i)->Q .normal a w)
 (hQ:∀ listed k j a w,Inv n ops base F env0 ds j0 w0 listed k j a w->∀ (x:IV) (H':IHeap) (m:Nat) (v:Value) (j':J) (w':World),F.pan=some (m,x,H')->Sim j' H' w'->Ext j w j' w'->Stay base j j'->VR j' w' x v->Q (.panic [{v,recovered:=false}]) a w'):
 ∀(fuel:Nat) (listed:Array Bool) (k:Nat) (j:J) (a:Act) (w:World),Inv n ops base F env0 ds j0 w0 listed k j a w->((List.range ops.size).filter (fun i=> !listed.getD i false)).length<=fuel->
  wpAnyIn (Wf ro) 0 P .any ops Q fuel listed a w:=by
 have hlt:∀ i o,ops[i]? =some o->∀ e∈o.after,Region.binds .any e=true->e.on<i:=by
  intro i o ho
  obtain⟨o2,env,anc,ad,f1,f2,_⟩:=hfact i (Array.getElem?_eq_some_iff.1 ho).1
  rw[ho]at f1;injection f1 with f1;subst f1
  exact f2
 have hdone:∀ listed k j a w,Inv n ops base F env0 ds j0 w0 listed k j a w->Region.ready .any ops listed=[]->Q .normal a w:=by
  intro listed k j a w hinv hr
  refine hN listed k j a w hinv ?_
  intro i
  induction i using Nat.strongRecOn with
  |_ i ih=>
   intro hi
   apply Classical.byContradiction
   intro hoff
   have hoff':listed.getD i true=false:=by
    unfold On at hoff
    have:i<listed.size:=by rw[hinv.size];exact hi
    simp[this]at hoff ⊢;exact hoff
   have:i∈Region.ready .any ops listed:=by
    rw[mem_ready]
    refine⟨hoff',ops[i],Array.getElem?_eq_getElem hi,fun e he hb=> ?_⟩
    have:=hlt i _ (Array.getElem?_eq_getElem hi) e he hb
    exact ih e.on this (by omega)
   rw[hr]at this;cases this
 intro fuel
 induction fuel with
 |zero=>
  intro listed k j a w hinv hcnt
  have hr:Region.ready .any ops listed=[]:=by
   apply List.eq_nil_iff_forall_not_mem.2
   intro i hi
   obtain⟨h0,o,ho,_⟩:=mem_ready.1 hi
   have hlt:=(Array.getElem?_eq_some_iff.1 ho).1
   have hnil:(List.range ops.size).filter (fun i=> !listed.getD i false)=[]:=List.eq_nil_of_length_eq_zero (by omega)
   have:i∈(List.range ops.size).filter (fun i=> !listed.getD i false):=by
    rw[List.mem_filter,List.mem_range]
    refine⟨hlt,?_⟩
    have hsz:i<listed.size:=by rw[hinv.size];exact hlt
    simp[hsz]at h0 ⊢;exact h0
   rw[hnil]at this;cases this
  exact⟨hr,hdone _ _ _ _ _ hinv hr⟩
 |succ fuel ih=>
  intro listed k j a w hinv hcnt
  refine⟨fun hr=>hdone _ _ _ _ _ hinv hr,fun i hi=> ?_⟩
  obtain⟨h0,o,ho,hall⟩:=mem_ready.1 hi
  have hlti:=(Array.getElem?_eq_some_iff.1 ho).1
  have hsz:i<listed.size:=by rw[hinv.size];exact hlti
  have hoff:¬ On listed i:=by
   unfold On
   simp[hsz]at h0 ⊢;exact h0
  refine op_any T hC hY hinv hwf hfact hobs hdist hslot hlate ho hoff hall ?_ (hQ _ _ _ _ _ hinv)
  intro k' j' a' w' hinv'
  refine ih _ k' j' a' w' hinv' ?_
  have hf:=filt i (fun q=> !listed.getD q false) (fun q=> !(listed.setIfInBounds i true).getD q false) (by unfold On at hoff;simpa using hoff) (by simp[hsz]) (fun q hq=>by rw[getD_set_ne false (Ne.symm hq)]) (List.range ops.size) List.nodup_range (List.mem_range.2 hlti)
  omega
theorem drawFrom_ok{P:Program}(T:TO P){C:Oracle}(hC:CallOk P C){Y:YOracle}(hY:YOk P Y){n:Nat}{ops:Array Oper}{s:IState}{r:IOut×IState}{slots:Nat}(hsl:slotsOf n ops.toList 0=some slots){H0:IHeap}
 (hH0n:H0.next=s.H.next+ops.size) (hH0:∀ (j:J) (w:World),Sim j s.H w->Sim j H0 w.drew) (h:(drawFrom T C Y ops s slots H0).2=some r):
 s.H.next<=r.2.H.next∧∀ (ro:Option Nat) (j:J) (w:World) (a:Act),SR n j s a w->∀ Q:Exit->Act->World->Prop,
 (∀e j' a' w',ExitR j' w' r.1 e->SR n j' r.2 a' w'->Ext j w j' w'->Stay s.H.next j j'->Q e a' w')->
 wpAnyIn (Wf ro) 0 P .any ops Q ops.size (Array.replicate ops.size false) a w.drew:=by
 unfold drawFrom at h
 ·split at h
  ·cases h
  ·rename_i F hF
   simp only at h
   split at h
   ·rename_i hobl
    obtain⟨hob,hlt⟩:=hobl
    obtain⟨sl1,sl2,sl3⟩:=slotsOf_ok _ _ _ hsl
    have hwf0:WF ops s.env (s.H.next+ops.size) ⟨0,.leaf,s.env,[],[H0],[],0,[],none,[]⟩:=
     {len:=rfl,hs:=rfl,M:=fun p r h=>by simp[Trie.get]at h
      env:=fun t x h=>.inr ⟨h,fun p o hp=>absurd hp (Nat.not_lt_zero _)⟩
      em:=fun e h=>by cases h
      lt:=fun e h=>by cases h
      mono:=fun m m' e e' _ h=>by simp[nth]at h
      next:=fun H h=>by simp at h;subst h;rw[hH0n];exact Nat.le_refl _
      panH:=fun m x H h=>by cases h
      obR:=fun i anc ob k h=>by cases h}
    obtain⟨hwf,hle,hFi,hfact⟩:=dpass_ok T C Y ops s.H.next slots (Nat.le_refl _) (fun o env H r hr=>(evVal_ok T C Y hC hY hr).1) ops.toList _ F (by simp) (Nat.zero_le _) hwf0 hF
    have hobs:=obsGo_ok T (ops:=ops) hwf.M (HH:=F.Hs.reverse) (EE:=F.es.reverse) (base:=s.H.next) F.Hs.reverse 0 F.es.reverse 0 rfl rfl (fun i hi=>by simp at hi) hob
    have hdist:∀ (p q:Nat) (x y:Oper) (d:Nat),ops[p]? =some x->ops[q]? =some y->x.dst=some d->y.dst=some d->p=q:=fun p q x y d h1 h2=>sl3 p q x y d (by simpa using h1) (by simpa using h2)
    have hlate:∀ (i m t:Nat),(i,m)∈F.late->m.testBit t=true->∀ (q:Nat) (o:Oper),ops[q]? =some o->o.dst=some t->Reach ops i q:=by
     intro i m t hm ht q o ho hd
     rw[Bool.or_eq_true]at hlt
     rcases hlt with hlt |hlt
     ·have:F.late=[]:=by simpa using hlt
      rw[this]at hm;cases hm
     ·exact lateOk_ok hwf.M ops.toList 0 (by simp) hlt i m t hm ht q o (Nat.zero_le _) ho hd
    have hslot:∀ (p:Nat) (x:Oper) (d:Nat),ops[p]? =some x->x.dst=some d->d<n∧slots.testBit d=true:=fun p x d h1 h2=>by
     obtain⟨g1,g2,_⟩:=sl2 p x d (by simpa using h1) h2
     exact⟨g1,g2⟩
    have hnext:s.H.next<=r.2.H.next:=by
     split at h
     ·rename_i H Hs hp hHs
      injection h with h;subst h
      have:=hwf.next H (by rw[hHs];simp)
      simp only;omega
     ·rename_i m x H' hp
      injection h with h;subst h
      have:=(hwf.panH _ _ _ hp).1
      simp only;omega
     ·cases h
    refine⟨hnext,fun ro j w a hs Q hQ=> ?_⟩
    have hinv0:Inv n ops s.H.next F s.env s.ds j w (Array.replicate ops.size false) 0 j a w.drew:=
     {size:=by simp
      closed:=fun i o ho hon=>absurd hon (off_none _ _)
      pre:=fun m e he=>⟨fun hon=>absurd hon (off_none _ _),fun h=>absurd h (Nat.not_lt_zero _)⟩
      kle:=Nat.zero_le _
      nopan:=fun m x H hp hon=>absurd hon (off_none _ _)
      sim:=by
       obtain⟨H1,hb1,_,hb3⟩:=hle.hs 0 H0 rfl
       refine⟨H1,hb1,?_⟩
       refine Sim.grew hb3 (hH0 _ _ hs.sim) (fun q anc o hq _=>hs.sim.fresh _ (Nat.le_add_right _ _))
      al:=fun i hi _=>hs.sim.fresh _ (Nat.le_add_right _ _)
      vals:=fun i o d x ho hd hon=>absurd hon (off_none _ _)
      old:=fun t x ht _=>⟨(hs.env t x ht).1,(hs.env t x ht).2.mono (Ext.drew j w)⟩
      n:=hs.size
      ds:=hs.ds.mono (Ext.drew j w)
      newl:=fun i hon=>absurd hon (off_none _ _)
      ext:=Ext.drew j w
      stay:=Stay.refl _ _}
    refine any_order T hC hY hwf (fun i hi=>hfact i (Nat.zero_le _) hi) (fun k' H ob hk hH hob'=> ?_) hdist hslot hlate ?_ ?_ ops.size _ 0 j a w.drew hinv0 ?_
    ·exact hobs k' H ob (Nat.zero_le _) (by simpa using hk) hH hob'
    ·intro listed k j' a' w' hinv hall
     have hnop:F.pan=none:=by
      cases hp:F.pan with
      |none=>rfl
      |some p=>
       obtain⟨m,x,H⟩:=p
       exact absurd (hall m (by have:=(hwf.panH m x H hp).2.1;omega)) (hinv.nopan m x H hp)
     have hk:k=F.es.length:=by
      have:=hinv.kle
      apply Classical.byContradiction
      intro hne
      obtain⟨e,he⟩:=nth_some (l:=F.es) (i:=k) (by omega)
      have:=(hinv.pre k e he).1 (hall e (by have:=hwf.lt e (nth_mem he);omega))
      omega
     split at h
     ·rename_i H Hs hp hHs
      injection h with h;subst h
      refine hQ .normal j' a' w' rfl ⟨?_,hinv.n,hinv.ds,?_⟩ hinv.ext hinv.stay
      ·intro t x ht
       rcases hwf.env t x ht with⟨p,o,h1,h2,h3,h4⟩ |⟨h1,h2⟩
       ·exact hinv.vals p o t x h2 h3 (hall p (by omega)) h4
       ·exact hinv.old t x h1 fun p o hp hd _=>h2 p o (by have:=(Array.getElem?_eq_some_iff.1 hp).1;omega) hp hd
      ·obtain⟨H1,hH1,hsim⟩:=hinv.sim
       have hl:=hwf.hs
       rw[hHs]at hl hH1
       have:Hs.length=k:=by simp at hl;omega
       rw[<-this,nth_last]at hH1
       injection hH1 with hH1;subst hH1
       exact hsim
     ·rename_i m x H' hp;rw[hnop]at hp;cases hp
     ·cases h
    ·intro listed k j1 a' w1 hinv x H' m v j' w' hp s1 s2 s3 s4
     split at h
     ·rename_i hp' _;rw[hp']at hp;cases hp
     ·rename_i m' x' H'' hp'
      rw[hp']at hp;injection hp with hp;injection hp with h1 h2;injection h2 with h2 h3;subst h1;subst h2;subst h3
      injection h with h;subst h
      refine hQ _ j' a' w' ⟨v,rfl,s4⟩ ⟨?_,hinv.n,hinv.ds.mono s2,s1⟩ (hinv.ext.trans s2) (hinv.stay.trans s3 (Nat.le_refl _))
      intro t y ht
      obtain⟨g1,g2⟩:=forget_ok _ _ _ _ ht
      obtain⟨g3,g4⟩:=hinv.old t y g1 fun p o hp hd=>absurd hd (g2 o (by have:=Array.mem_of_getElem? hp;simpa using this))
      exact⟨g3,g4.mono s2⟩
     ·cases h
    ·have:=List.length_filter_le (fun i=> !(Array.replicate ops.size false).getD i false) (List.range ops.size)
     rw[List.length_range]at this
     exact this
   ·cases h
theorem evDraw_any{P:Program}(T:TO P){C:Oracle}(hC:CallOk P C){Y:YOracle}(hY:YOk P Y){n:Nat}{ops:Array Oper}{s:IState}{r:IOut×IState}(h:evDraw T C Y n ops s=some r):
 s.H.next<=r.2.H.next∧∀ (ro:Option Nat) (j:J) (w:World) (a:Act),SR n j s a w->∀ Q:Exit->Act->World->Prop,
 (∀e j' a' w',ExitR j' w' r.1 e->SR n j' r.2 a' w'->Ext j w j' w'->Stay s.H.next j j'->Q e a' w')->
 wpAnyIn (Wf ro) 0 P .any ops Q ops.size (Array.replicate ops.size false) a w.drew:=by
 unfold evDraw at h
 split at h
 ·cases h
 ·rename_i slots hsl
  have k1:(reserve T s.H.next 0 ops.toList {s.H with next:=s.H.next+ops.size}).next=s.H.next+ops.size:=reserve_next T _ _ _
  have k2:∀ (j:J) (w:World),Sim j s.H w->Sim j (reserve T s.H.next 0 ops.toList {s.H with next:=s.H.next+ops.size}) w.drew:=
   fun j w hs=>reserve_ok T (fun b hb=>hs.fresh b hb) _ _ _ (hs.drew.raise _)
  split at h
  ·rename_i x r' hd
   injection h with h;subst h
   exact drawFrom_ok T hC hY hsl k1 k2 (by rw[hd])
  ·rename_i F hd
   exact drawFrom_ok T hC hY hsl ((reserve2_next _ _).trans k1) (fun j w hs=>reserve2_ok (fun b hb=>hs.fresh b hb) _ _ (k2 j w hs)) h
  ·cases h
theorem evDraw_ok{P:Program}(hm:P.follows .mixedOrders=true)(T:TO P){C:Oracle}(hC:CallOk P C){Y:YOracle}(hY:YOk P Y):DrawsOk P (evDraw T C Y):=
 ⟨hm,fun n ops s r h=>⟨(evDraw_any T hC hY h).1,fun ro j w a hs Q hQ l hl=>wpOpsIn_of_any _ _ _ _ _ ((evDraw_any T hC hY h).2 ro j w a hs Q hQ) hl⟩⟩
end Go.Eng
namespace Go.Eng
open Go.RowKit
theorem enters_of {P : Program} {g : FuncId} {fn : Func} (h1 : P.funcs[g]? = some fn) (h2 : (fn.name == "runtime.NumGoroutine") = false) (h3 : fn.body.isNone = false) : Enters P g := by
 intro args w
 unfold callFunc
 simp only[Sem.run_bind,run_program,Result.andThen_ok,h1,h2,h3,Bool.false_eq_true,if_false,Sem.run_pure]
variable [Far]
theorem Ext.below{j:J}{w w':World}(h:Below w.heap.size w w'):Ext j w j w' where
 os:=h.os
 tape:=h.tape
 output:=h.output
 size:=h.size
 sub:=fun _ _ h=>h
 keep:=fun B hB hn=>⟨h.block B hB,hn⟩
 cells:=fun B C e f hb=>by
  have hB:B<w.heap.size:=by
   rcases Nat.lt_or_ge B w.heap.size with h' |h'
   ·exact h'
   ·rw[Array.getElem?_eq_none h']at hb;cases hb
  exact⟨C,(h.block B hB).trans hb,rfl⟩
theorem Sim.below{j:J}{H:IHeap}{w w':World}(hs:Sim j H w)(h:Below w.heap.size w w'):Sim j H w' where
 live:=fun b o B d hb hj=>(hs.live b o B d hb hj).mono (Ext.below h) (h.block B (hs.bound b B d hj))
 inj:=hs.inj
 fresh:=hs.fresh
 bound:=fun b B d hj=>Nat.lt_of_lt_of_le (hs.bound b B d hj) h.size
 glob:=fun g cs hg=>(hs.glob g cs hg).mono (Ext.below h)
 far:=fun B hX=>Nat.lt_of_lt_of_le (hs.far B hX) h.size
theorem callR_below{P:Program}{g:FuncId}{xs:List IV}{H:IHeap}{x:IV}(hen:Enters P g)
 (h:∀ (j:J) (w:World) (vs:Array Value),Sim j H w->VRs j w xs vs->∃ v,(∀j' w',VR j' w' x v)∧Calls P g vs w fun e w'=>e=.returned v∧Below w.heap.size w w'):
 CallR P g xs H (.ret x) H:=by
 refine⟨hen,Nat.le_refl _,fun j w vs hs hv=> ?_⟩
 obtain⟨v,h1,h2⟩:=h j w vs hs hv
 refine h2.mono ?_
 rintro e w' ⟨rfl,hb⟩
 exact⟨j,hs.below hb,Ext.below hb,Stay.refl _ _,h1 j w'⟩
theorem sc_of{j:J}{w:World}{u v:Value}(h:VR j w (.sc u) v):v=u:=by cases h;rfl
theorem VRs.two{j:J}{w:World}{x y:IV}{vs:Array Value}(h:VRs j w [x,y] vs):∃ a b,vs= #[a,b]∧VR j w x a∧VR j w y b:=by
 obtain⟨h1,h2⟩:=h
 have hs:vs.size=2:=h1
 refine⟨vs[0],vs[1],?_,?_,?_⟩
 ·apply Array.ext
  ·simp[hs]
  ·intro i h1 h2
   match i,h2 with
   |0,_=>rfl
   |1,_=>rfl
   |i+2,h2=>exact absurd h2 (by simp)
 ·have:=h2 0 (by simp)
  simpa[Array.getD,hs]using this
 ·have:=h2 1 (by simp)
  simpa[Array.getD,hs]using this
theorem VRs.one'{j:J}{w:World}{x:IV}{vs:Array Value}(h:VRs j w [x] vs):∃ a,vs= #[a]∧VR j w x a:=by
 obtain⟨h1,h2⟩:=h
 have hs:vs.size=1:=h1
 refine⟨vs[0],?_,?_⟩
 ·apply Array.ext
  ·simp[hs]
  ·intro i h1 h2
   match i,h2 with
   |0,_=>rfl
   |i+1,h2=>exact absurd h2 (by simp)
 ·have:=h2 0 (by simp)
  simpa[Array.getD,hs]using this
def strs:List IV->Option (List ByteArray)
 | []=>some []
 | .sc (.string s)::l=>(match strs l with |some ss=>some (s::ss) |none=>none)
 |_::_=>none
theorem strs_get{j:J}{w:World}:∀ (cs:List IV)(ss:List ByteArray),strs cs=some ss->ss.length=cs.length∧∀ (k:Nat)(hk:k<cs.length)(v:Value),VR j w (cs[k]) v->∃ s,ss[k]? =some s∧v=.string s:=by
 intro cs
 induction cs with
 |nil=>intro ss h;simp only[strs]at h;injection h with h;subst h;exact⟨rfl,fun k hk=>by simp at hk⟩
 |cons c cs ih=>
  intro ss h
  cases c with
  |sc u=>
   cases u with
   |string s=>
    simp only[strs]at h
    split at h
    ·rename_i ss' hs
     injection h with h;subst h
     obtain⟨h1,h2⟩:=ih _ hs
     refine⟨by simp[h1],fun k hk v hv=> ?_⟩
     cases k with
     |zero=>simp only[List.getElem_cons_zero]at hv;exact⟨s,rfl,sc_of hv⟩
     |succ k=>simp only[List.getElem_cons_succ]at hv;exact h2 k (by simpa using hk) v hv
    ·cases h
   |_=>cases h
  |_=>cases h
end Go.Eng
namespace Go.Eng
open Go.RowKit
def contL:List UInt8->List UInt8->Bool
 | [],p=>p.isEmpty
 |b::l,p=>p.isPrefixOf (b::l)||contL l p
def idxL:List UInt8->List UInt8->Nat->Option Nat
 | [],p,k=>if p.isEmpty then some k else none
 |b::l,p,k=>if p.isPrefixOf (b::l)then some k else idxL l p (k+1)
def idxV(s p:List UInt8):Int:=match idxL s p 0 with |some k=>(k:Int) |none=> -1
theorem idxL_eq:∀ (l p:List UInt8)(k:Nat),(Lib.index l p= -1∧idxL l p k=none)∨(∃i:Nat,Lib.index l p=i∧idxL l p k=some (k+i)):=by
 intro l
 induction l with
 |nil=>
  intro p k
  simp only[idxL,Lib.index]
  cases hp:p.isEmpty with
  |true=>exact .inr ⟨0,by simp,by simp⟩
  |false=>exact .inl ⟨by simp,by simp⟩
 |cons b l ih=>
  intro p k
  simp only[idxL,Lib.index]
  cases hp:p.isPrefixOf (b::l)with
  |true=>exact .inr ⟨0,by simp,by simp⟩
  |false=>
   simp only[Bool.false_eq_true,if_false]
   rcases ih p (k+1)with ⟨h1,h2⟩ |⟨i,h1,h2⟩
   ·exact .inl ⟨by rw[h1];rfl,h2⟩
   ·refine .inr ⟨i+1,?_,by rw[h2];congr 1;omega⟩
    have:(Lib.index l p== -1)=false:=by rw[h1];simp
    rw[this,h1];simp
theorem idxV_eq(s p:List UInt8):idxV s p=Lib.index s p:=by
 unfold idxV
 rcases idxL_eq s p 0 with⟨h1,h2⟩ |⟨i,h1,h2⟩
 ·rw[h1,h2]
 ·rw[h1,h2];simp
theorem contL_any:∀ (l p:List UInt8),contL l p=(List.range (l.length+1)).any fun i=>p.isPrefixOf (l.drop i):=by
 intro l
 induction l with
 |nil=>intro p;cases p<;>simp[contL,List.range_succ]
 |cons b l ih=>
  intro p
  simp only[contL,ih p,List.length_cons]
  rw[List.range_succ_eq_map (n:=l.length+1)]
  simp[List.any_cons,List.any_map,Function.comp_def]
def contB(s p:ByteArray)(k:Nat):Bool:=(List.range k).any fun i=>decide (i+p.size<=s.size)&&((s.extract i (i+p.size)).toList==p.toList)
theorem any_congr{l:List Nat}{f g:Nat->Bool}(h:∀ i∈l,f i=g i):l.any f=l.any g:=by
 induction l with
 |nil=>rfl
 |cons x l ih=>simp only[List.any_cons];rw[h x (by simp),ih (fun i hi=>h i (by simp[hi]))]
theorem contB_eq(s p:ByteArray):contB s p (s.size+1)=contL s.data.toList p.data.toList:=by
 rw[contL_any]
 unfold contB
 have hl:s.data.toList.length=s.size:=rfl
 have hp:p.data.toList.length=p.size:=rfl
 rw[hl]
 apply any_congr
 intro i hi'
 have hi':i<s.size+1:=List.mem_range.1 hi'
 by_cases h:i+p.size<=s.size
 ·have:=Lib.occ_of_piece s p i h
  unfold Lib.occAt at this
  rw[this];simp[h]
 ·have:p.data.toList.isPrefixOf (s.data.toList.drop i)=false:=by
   apply Bool.eq_false_iff.2
   intro hc
   have:=(List.isPrefixOf_iff_prefix.1 hc).length_le
   rw[hp,List.length_drop,hl]at this
   omega
  simp[h,this]
theorem contB_yes{s p:ByteArray}{k:Nat}(h:k+p.size<=s.size)(he:((s.extract k (k+p.size)).toList==p.toList)=true):contB s p (s.size+1)=true:=by
 unfold contB
 rw[List.any_eq_true]
 exact⟨k,List.mem_range.2 (by omega),by rw[he];simp[h]⟩
theorem contB_step{s p:ByteArray}{k:Nat}(hn:contB s p k=false)(he:((s.extract k (k+p.size)).toList==p.toList)=false):contB s p (k+1)=false:=by
 unfold contB at *
 rw[List.range_succ,List.any_append,hn]
 simp only[List.any_cons,List.any_nil,he,Bool.and_false,Bool.or_false]
theorem contB_no{s p:ByteArray}{k:Nat}(hn:contB s p k=false)(h:s.size<k+p.size):contB s p (s.size+1)=false:=by
 unfold contB at *
 rw[List.any_eq_false]at *
 intro i hi
 by_cases hik:i<k
 ·exact hn i (List.mem_range.2 hik)
 ·have:¬ (i+p.size<=s.size):=by omega
  simp[this]
end Go.Eng
namespace Go.Eng
open Go.RowKit
def TOof [Far](P:Program):TO P where
 und:=fun t=>P.underlying t
 hund:=fun _ _ h=>h
 inf:=fun t=>P.info? t
 hinf:=fun _ _ h=>h
 plain:=fun t=> !P.stoodInHeld t&& !P.eqGuardType P.depth t
 hplain:=fun t h=>by simpa using h
 meth:=fun _ _=>none
 hmeth:=fun _ _ _ h=>by cases h
 ov:=fun _=>false
 hov:=fun _ h=>by cases h
def FFof(P:Program):FTab:=fun g=>
 match P.funcs[g]? with
 |some f=>(match f.body with |some b=>some ⟨b,f.ntmps,f.results.toList⟩ |none=>none)
 |none=>none
theorem FFof_ok {P : Program} (hn : P.funcs.toList.all (fun f => !(f.name == "runtime.NumGoroutine")) = true) : FTabOk P (FFof P) := by
 intro g fi h
 unfold FFof at h
 split at h
 ·rename_i f hf
  split at h
  ·rename_i b hb
   injection h with h;subst h
   have hn : (f.name == "runtime.NumGoroutine") = false := by
    have:=List.all_eq_true.1 hn f (by simpa using Array.mem_of_getElem? hf)
    simpa using this
   exact⟨enters_of hf hn (by rw[hb];rfl),f,hf,hb,rfl,rfl⟩
  ·cases h
 ·cases h
variable [Far]
def noS:Oracle:=fun _ _ _=>none
theorem noS_ok(P:Program):CallOk P noS:=fun _ _ _ _ _ h=>by cases h
def sCont(c:FuncId)(S:Oracle):Oracle:=fun g xs H=>
 match Nat.beq g c with
 |true=>
  (match xs with
  | [.sc (.string s),.sc (.string p)]=>(match Nat.ble s.size 1000&&Nat.ble p.size 1000 with |true=>some (.ret (.sc (.bool (contL s.data.toList p.data.toList))),H) |false=>none)
  |_=>none)
 |false=>S g xs H
theorem sCont_ok{P:Program}{c:FuncId}{S:Oracle}(hS:CallOk P S)(hen:Enters P c)
 (h:∀ (s p:ByteArray) (w:World),s.size<=1000->p.size<=1000->Calls P c #[.string s,.string p] w fun e w'=>e=.returned (.bool (contL s.data.toList p.data.toList))∧w'=w):CallOk P (sCont c S):=by
 intro g xs H r H' hr
 unfold sCont at hr
 split at hr
 ·rename_i hg
  have hg:=Nat.eq_of_beq_eq_true hg
  subst hg
  split at hr
  ·rename_i s p
   split at hr
   ·rename_i hsz
    simp only[Bool.and_eq_true]at hsz
    injection hr with hr;injection hr with h1 h2;subst h1;subst h2
    refine callR_below hen fun j w vs hs hv=> ?_
    obtain⟨a,b,rfl,ha,hb⟩:=hv.two
    rw[sc_of ha,sc_of hb]
    refine⟨_,fun _ _=>.sc rfl,(h s p w (Nat.le_of_ble_eq_true hsz.1) (Nat.le_of_ble_eq_true hsz.2)).mono ?_⟩
    rintro e w' ⟨rfl,rfl⟩
    exact⟨rfl,Below.refl _ _⟩
   ·cases hr
  ·cases hr
 ·exact hS _ _ _ _ _ hr
def sIdx(c gm:Nat)(S:Oracle):Oracle:=fun g xs H=>
 match Nat.beq g c with
 |true=>
  (match xs,H.g.get gm with
  | [.sc (.string s),.sc (.string p)],some [.anyi .i64]=>(match Nat.ble s.size 4294967280 with |true=>some (.ret (.sc (.int .i64 (idxV s.data.toList p.data.toList))),H) |false=>none)
  |_,_=>none)
 |false=>S g xs H
theorem sIdx_ok{P:Program}{c gm:Nat}{S:Oracle}(hS:CallOk P S)(hen:Enters P c)
 (h:∀ (s p:ByteArray) (m:Int) (w:World),s.size<4294967281->w.cell? ⟨gm,0,none⟩=some (.int .i64 m)->Calls P c #[.string s,.string p] w fun e w'=>e=.returned (.int .i64 (Lib.index s.data.toList p.data.toList))∧w'=w):CallOk P (sIdx c gm S):=by
 intro g xs H r H' hr
 unfold sIdx at hr
 split at hr
 ·rename_i hg
  have hg:=Nat.eq_of_beq_eq_true hg
  subst hg
  split at hr
  ·rename_i s p hgm
   split at hr
   ·rename_i hsz
    have hsz:=Nat.le_of_ble_eq_true hsz
    injection hr with hr;injection hr with h1 h2;subst h1;subst h2
    refine callR_below hen fun j w vs hs hv=> ?_
    obtain⟨a,b,rfl,ha,hb⟩:=hv.two
    rw[sc_of ha,sc_of hb,idxV_eq]
    have hglob:=hs.glob _ _ hgm
    cases hglob with |fp us hB hw hc hvv=>
    have h0:=hvv 0 (by simp)
    simp only[List.getElem_cons_zero]at h0
    have hcell:=hc 0 (by simp)
    simp only[Nat.add_zero]at hcell
    generalize us 0=u at h0 hcell
    cases h0 with |anyi=>
    rename_i m
    refine⟨_,fun _ _=>.sc rfl,(h s p m w (by omega) hcell).mono ?_⟩
    rintro e w' ⟨rfl,rfl⟩
    exact⟨rfl,Below.refl _ _⟩
   ·cases hr
  ·cases hr
 ·exact hS _ _ _ _ _ hr
def sJoin(c:FuncId)(S:Oracle):Oracle:=fun g xs H=>
 match Nat.beq g c with
 |true=>
  (match xs with
  | [.sg b o len sz,.sc (.string sep)]=>
    (match H.get b with
    |some (.row rs)=>
     if o+len<=rs.length then
      (match strs ((rs.drop o).take len)with
      |some ss=>
       (match Nat.ble ss.length 140737488355328&&Nat.ble (Lib.join (ss.map (·.data.toList)) sep.data.toList).length 140737488355328 with
       |true=>some (.ret (.sc (.string ⟨(Lib.join (ss.map (·.data.toList)) sep.data.toList).toArray⟩)),H)
       |false=>none)
      |none=>none)
     else none
    |_=>none)
  |_=>none)
 |false=>S g xs H
theorem sJoin_ok{P:Program}{c:FuncId}{S:Oracle}(hS:CallOk P S)(hen:Enters P c)
 (h:∀ (bk o cp:Nat) (xs:List ByteArray) (sep:ByteArray) (w:World) (_:∀ (j:Nat) x,xs[j]? =some x->w.cell? ⟨bk,o+j,none⟩=some (.string x)) (_:bk<w.heap.size) (_:xs.length<=140737488355328) (_:xs.length<=cp) (_:(Lib.join (xs.map (·.data.toList)) sep.data.toList).length<=140737488355328),
  Calls P c #[.slice (some ⟨bk,o,none⟩) xs.length cp,.string sep] w fun e w'=>e=.returned (.string ⟨(Lib.join (xs.map (·.data.toList)) sep.data.toList).toArray⟩)∧Below w.heap.size w w'):CallOk P (sJoin c S):=by
 intro g xs H r H' hr
 unfold sJoin at hr
 split at hr
 ·rename_i hg
  have hg:=Nat.eq_of_beq_eq_true hg
  subst hg
  split at hr
  ·rename_i b o len sz sep
   split at hr
   ·rename_i rs hget
    split at hr
    ·rename_i hle
     split at hr
     ·rename_i ss hss
      split at hr
      ·rename_i hsz
       simp only[Bool.and_eq_true]at hsz
       injection hr with hr;injection hr with h1 h2;subst h1;subst h2
       refine callR_below hen fun j w vs hs hv=> ?_
       obtain⟨x,y,rfl,hx,hy⟩:=hv.two
       rw[sc_of hy]
       cases hx with |sg hj hl hb hf hC=>
       rename_i B d cap C e f
       obtain⟨C1,e1,f1,c1,c2,c3,c4⟩:=hs.live _ _ _ _ hget hj
       obtain⟨s1,s2⟩:=strs_get (j:=j) (w:=w) _ _ hss
       have hlen:ss.length=len:=by rw[s1,List.length_take,List.length_drop];omega
       have:=h B (d+o) cap ss sep w (fun k x hk=>by
        have hk':k<ss.length:=(List.getElem?_eq_some_iff.1 hk).1
        have hk2:k<((rs.drop o).take len).length:=by omega
        have hv:=c4 (o+k) (by omega)
        obtain⟨t,t1,t2⟩:=s2 k hk2 (C1.getD (d+(o+k)) undef) (by simp only[List.getElem_take,List.getElem_drop];exact hv)
        rw[hk]at t1;injection t1 with t1;subst t1
        rw[Nat.add_assoc,cell_of_heap c1 (by omega),t2]) (hs.bound _ _ _ hj) (Nat.le_of_ble_eq_true hsz.1) (by omega) (Nat.le_of_ble_eq_true hsz.2)
       rw[hlen]at this
       exact⟨_,fun _ _=>.sc rfl,this⟩
      ·cases hr
     ·cases hr
    ·cases hr
   ·cases hr
  ·cases hr
 ·exact hS _ _ _ _ _ hr
end Go.Eng
namespace Go.Eng
open Go.RowKit
def tree:Nat->IV->Bool
 |0,_=>false
 |k+1,x=>
  match x with
  | .junk | .sc _ | .gl _ _ | .anyi _ | .anys | .es | .un _ | .fu _=>true
  | .iface _ y=>tree k y
  | .agg cs | .tup cs | .fp cs _=>cs.all (tree k)
  | .fs rows=>rows.all fun r=>r.all (tree k)
  | .fn _ xs ys=>xs.all (tree k)&&ys.all (tree k)
  |_=>false
theorem bz_ok{F F1:Far}{j j1:J}{w:World}(ho:∀ B,B<w.heap.size->@J.off F j B->@J.off F1 j1 B){x:IV}(hx:Bz x):∀ {v:Value},@VR F j w x v->@VR F1 j1 w x v:=by
 induction hx with
 |junk=>intro v h;exact @VR.junk F1 _ _ v
 |sc=>intro v h;cases h with |sc h=>exact @VR.sc F1 _ _ _ h
 |gl=>intro v h;cases h;exact @VR.gl F1 _ _ _ _
 |anyi=>intro v h;cases h;exact @VR.anyi F1 _ _ _ _
 |anys=>intro v h;cases h;exact @VR.anys F1 _ _ _
 |es=>intro v h;cases h;exact @VR.es F1 _ _ _
 |fp h ih=>
  intro v hv
  cases hv with
  |fp vs hB hw hc hv=>exact @VR.fp F1 _ _ _ _ _ _ vs (ho _ hw hB) hw hc fun k hk=>ih _ (List.getElem_mem hk) (hv k hk)
 |fs h ih=>
  intro v hv
  cases hv with
  |fs vs hne hB hw hsz hcap hc hv=>exact @VR.fs F1 _ _ _ _ _ _ _ vs hne (ho _ hw hB) hw hsz hcap hc fun i k hi hk=>ih _ (List.getElem_mem hi) _ (List.getElem_mem hk) (hv i k hi hk)
  |fs0=>exact @VR.fs0 F1 _ _ _ _
 |fn h1 h2 ih1 ih2=>
  intro v hv
  cases hv with
  |fn g1 g2 k1 k2=>exact @VR.fn F1 _ _ _ _ _ _ _ g1 g2 (fun k hk=>ih1 _ (List.getElem_mem hk) (k1 k hk)) (fun k hk=>ih2 _ (List.getElem_mem hk) (k2 k hk))
 |iface h ih=>intro v hv;cases hv with |iface h=>exact @VR.iface F1 _ _ _ _ _ (ih h)
 |agg h ih=>intro v hv;cases hv with |agg g k=>exact @VR.agg F1 _ _ _ _ g fun i hi=>ih _ (List.getElem_mem hi) (k i hi)
 |tup h ih=>intro v hv;cases hv with |tup g k=>exact @VR.tup F1 _ _ _ _ g fun i hi=>ih _ (List.getElem_mem hi) (k i hi)
theorem fu_ok{F F1:Far}(hl:F.Like F1){j j1:J}{w:World}(ho:∀ B,B<w.heap.size->@J.off F j B->@J.off F1 j1 B){s:Nat}{v:Value}(h:@VR F j w (.fs (F.R s)) v):@VR F1 j1 w (.fu s) v:=by
 have:=bz_ok ho (.fs (F.hR s)) h
 rw[hl.R]at this
 exact @VR.fu F1 _ _ _ _ this
theorem lu_bz{F:Far}{s:Nat}(x:IV)(hx:x∈(F.R s).flatten):Bz x:=by
 obtain⟨r,hr,hx⟩:=List.mem_flatten.1 hx
 exact F.hR s r hr x hx
theorem bas_like{F F1:Far}(hl:F.Like F1)(x:IV):@bas F x=@bas F1 x:=by
 cases x<;>simp only[bas]
 ·rw[hl.U]
 ·rw[hl.R]
theorem un_ok{F F1:Far}(hl:F.Like F1){j1:J}{w:World}{k:Nat}:@VR F1 j1 w (.un k) (F.U k):=by
 rw[hl.U];exact @VR.un F1 _ _ _
theorem tree_ok{F F1:Far}(hl:F.Like F1){j j1:J}{w:World}(ho:∀ B,B<w.heap.size->@J.off F j B->@J.off F1 j1 B):
 ∀(k:Nat) (x:IV),tree k x=true->∀ v,@VR F j w x v->@VR F1 j1 w x v:=by
 intro k
 induction k with
 |zero=>intro x h;cases h
 |succ k ih=>
  intro x h v hv
  cases hv<;>simp only[tree,Bool.false_eq_true,Bool.and_eq_true]at h
  case junk=>exact .junk _
  case sc hs=>exact .sc hs
  case fp cs o B off vs hB hw hc hv=>exact .fp vs (ho _ hw hB) hw hc fun i hi=>ih _ (List.all_eq_true.1 h _ (List.getElem_mem hi)) _ (hv i hi)
  case fs rows B off sz cap vs hne hB hw hsz hcap hc hv=>
   exact .fs vs hne (ho _ hw hB) hw hsz hcap hc fun i q hi hq=>ih _ (List.all_eq_true.1 (List.all_eq_true.1 h _ (List.getElem_mem hi)) _ (List.getElem_mem hq)) _ (hv i q hi hq)
  case fs0=>exact .fs0
  case gl=>exact .gl
  case anyi=>exact .anyi
  case anys=>exact .anys
  case es=>exact .es
  case fn h1 h2 v1 v2=>exact .fn h1 h2 (fun i hi=>ih _ (List.all_eq_true.1 h.1 _ (List.getElem_mem hi)) _ (v1 i hi)) (fun i hi=>ih _ (List.all_eq_true.1 h.2 _ (List.getElem_mem hi)) _ (v2 i hi))
  case iface hx=>exact .iface (ih _ h _ hx)
  case agg h1 h2=>exact .agg h1 fun i hi=>ih _ (List.all_eq_true.1 h _ (List.getElem_mem hi)) _ (h2 i hi)
  case tup h1 h2=>exact .tup h1 fun i hi=>ih _ (List.all_eq_true.1 h _ (List.getElem_mem hi)) _ (h2 i hi)
  case un=>exact un_ok hl
  case fu hx=>exact fu_ok hl ho hx
def within(p:Nat->Bool):Nat->IV->Bool
 |0,_=>false
 |k+1,x=>
  match x with
  | .junk | .sc _ | .gl _ _ | .anyi _ | .anys | .es | .un _ | .fu _=>true
  | .ptr b _ | .sl b _ _ _ | .sg b _ _ _ | .map b | .yld b | .su b _ _ | .pu b _ _=>p b
  | .iface _ y=>within p k y
  | .agg cs | .tup cs=>cs.all (within p k)
  | .fn _ xs ys=>xs.all (within p k)&&ys.all (within p k)
  | .fp cs _=>cs.all (tree k)
  | .fs rows=>rows.all fun r=>r.all (tree k)
theorem within_ok{p:Nat->Bool}{F F1:Far}(hl:F.Like F1){j j1:J}(hj:∀ b x,p b=true->j b=some x->j1 b=some x){w:World}(ho:∀ B,B<w.heap.size->@J.off F j B->@J.off F1 j1 B):
 ∀(k:Nat) (x:IV),within p k x=true->∀ v,@VR F j w x v->@VR F1 j1 w x v:=by
 intro k
 induction k with
 |zero=>intro x h;cases h
 |succ k ih=>
  intro x h v hv
  cases hv<;>simp only[within,Bool.and_eq_true]at h
  case junk=>exact .junk _
  case sc hs=>exact .sc hs
  case ptr hb=>exact .ptr (hj _ _ h hb)
  case gl=>exact .gl
  case anyi=>exact .anyi
  case anys=>exact .anys
  case sl hb hl=>exact .sl (hj _ _ h hb) hl
  case sg hb hl h1 h2 h3=>exact .sg (hj _ _ h hb) hl h1 h2 h3
  case es=>exact .es
  case map hb=>exact .map (hj _ _ h hb)
  case yld hb=>exact .yld (hj _ _ h hb)
  case fp cs o B off vs hB hw hc hv=>exact .fp vs (ho _ hw hB) hw hc fun i hi=>tree_ok hl ho k _ (List.all_eq_true.1 h _ (List.getElem_mem hi)) _ (hv i hi)
  case fs rows B off sz cap vs hne hB hw hsz hcap hc hv=>
   exact .fs vs hne (ho _ hw hB) hw hsz hcap hc fun i q hi hq=>tree_ok hl ho k _ (List.all_eq_true.1 (List.all_eq_true.1 h _ (List.getElem_mem hi)) _ (List.getElem_mem hq)) _ (hv i q hi hq)
  case fs0=>exact .fs0
  case fn h1 h2 v1 v2=>exact .fn h1 h2 (fun i hi=>ih _ (List.all_eq_true.1 h.1 _ (List.getElem_mem hi)) _ (v1 i hi)) (fun i hi=>ih _ (List.all_eq_true.1 h.2 _ (List.getElem_mem hi)) _ (v2 i hi))
  case iface hx=>exact .iface (ih _ h _ hx)
  case agg h1 h2=>exact .agg h1 fun i hi=>ih _ (List.all_eq_true.1 h _ (List.getElem_mem hi)) _ (h2 i hi)
  case tup h1 h2=>exact .tup h1 fun i hi=>ih _ (List.all_eq_true.1 h _ (List.getElem_mem hi)) _ (h2 i hi)
  case un=>exact un_ok hl
  case fu hx=>exact fu_ok hl ho hx
  case su hk hx=>cases hx with |sg hb hl' h1 h2 h3=>exact .su (by rw[<-bas_like hl];exact hk) (.sg (hj _ _ h hb) hl' h1 h2 h3)
  case su0 hk=>exact .su0 (by rw[<-bas_like hl];exact hk)
  case pu hk hx=>cases hx with |ptr hb=>exact .pu (by rw[<-bas_like hl];exact hk) (.ptr (hj _ _ h hb))
def withinO(p:Nat->Bool):IObj->Bool
 | .row cs=>cs.all (within p 30)
 | .map es _=>es.all (fun e=>within p 30 e.1&&within p 30 e.2.1)
 | .miter m _ _ _=>(match m with |none=>true |some b=>p b)
 | .siter _ _ | .dfr | .mu _ | .lu _ _=>true
 | .loop .. =>false
theorem lu_ok{F F1:Far}(hl:F.Like F1){j j1:J}{w:World}(ho:∀ B,B<w.heap.size->@J.off F j B->@J.off F1 j1 B){B d s sz:Nat}(hr:@OR F j w B d (.lu s sz)):@OR F1 j1 w B d (.lu s sz):=by
 obtain⟨h1,C,t,f,h2,h3,h4,h5⟩:=hr
 rw[hl.R]at h1 h4
 refine⟨h1,C,t,f,h2,h3,h4,fun k hk=> ?_⟩
 have hk':k<(F.R s).flatten.length:=by rw[hl.R];exact hk
 have:=bz_ok (F1:=F1) ho (lu_bz (F:=F) _ (List.getElem_mem hk')) (h5 k hk')
 have e:(F.R s).flatten[k]'hk'=(F1.R s).flatten[k]'hk:=by simp only[hl.R]
 rw[e]at this;exact this
theorem withinO_ok{p:Nat->Bool}{F F1:Far}(hl:F.Like F1){j j1:J}(hj:∀ b x,p b=true->j b=some x->j1 b=some x){w:World}(ho:∀ B,B<w.heap.size->@J.off F j B->@J.off F1 j1 B){B d:Nat}{o:IObj}
 (h:withinO p o=true) (hr:@OR F j w B d o):@OR F1 j1 w B d o:=by
 cases o with
 |row cs=>
  obtain⟨C,t,f,h1,h2,h3,h4⟩:=hr
  exact⟨C,t,f,h1,h2,h3,fun k hk=>within_ok hl hj ho 30 _ (List.all_eq_true.1 h _ (List.getElem_mem hk)) _ (h4 k hk)⟩
 |map es clock=>
  obtain⟨hd,es',h1,h2,h3⟩:=hr
  refine⟨hd,es',h1,h2,fun k hk=> ?_⟩
  have:=List.all_eq_true.1 h _ (List.getElem_mem hk)
  simp only[Bool.and_eq_true]at this
  exact⟨within_ok hl hj ho 30 _ this.1 _ (h3 k hk).1,within_ok hl hj ho 30 _ this.2 _ (h3 k hk).2.1,(h3 k hk).2.2⟩
 |miter m since seen last=>
  obtain⟨hd,m',h1,h2⟩:=hr
  refine⟨hd,m',?_,h2⟩
  cases m<;>cases m'<;>simp only at h1 ⊢
  exact hj _ _ h h1
 |siter s pos=>exact hr
 |loop=>cases h
 |dfr=>exact hr
 |mu m=>
  obtain⟨hd,es',h1,h2⟩:=hr
  rw[hl.M]at h1 h2
  exact⟨hd,es',h1,h2⟩
 |lu s sz=>exact lu_ok hl ho hr
abbrev HL:=List (Nat×IObj)
def hOf:HL->Trie IObj->Trie IObj
 | [],t=>t
 |e::l,t=>Trie.set 40 (hOf l t) e.1 (some e.2)
def cut:HL->Trie IObj->Trie IObj
 | [],t=>t
 |e::l,t=>Trie.set 40 (cut l t) e.1 none
def gOf:List (Nat×List IV)->Trie (List IV)
 | []=>.leaf
 |e::l=>Trie.set 40 (gOf l) e.1 (some e.2)
def dom:HL->Nat->Bool
 | [],_=>false
 |e::l,b=>(match Nat.beq e.1 b with |true=>true |false=>dom l b)
theorem dom_cons(e:Nat×IObj)(l:HL)(b:Nat):dom (e::l) b=(Nat.beq e.1 b||dom l b):=by
 simp only[dom];cases Nat.beq e.1 b<;>rfl
theorem dom_mem{l:HL}{b:Nat}(h:dom l b=true):∃ o,(b,o)∈l:=by
 induction l with
 |nil=>cases h
 |cons e l ih=>
  rw[dom_cons,Bool.or_eq_true]at h
  rcases h with h |h
  ·exact⟨e.2,by rw[<-Nat.eq_of_beq_eq_true h];simp⟩
  ·obtain⟨o,ho⟩:=ih h;exact⟨o,List.mem_cons_of_mem _ ho⟩
theorem mem_dom{l:HL}{b:Nat}{o:IObj}(h:(b,o)∈l):dom l b=true:=by
 induction l with
 |nil=>cases h
 |cons e l ih=>
  rw[dom_cons,Bool.or_eq_true]
  rcases List.mem_cons.1 h with h |h
  ·left;rw[<-h];exact Nat.beq_refl _
  ·exact .inr (ih h)
theorem hOf_get{l:HL}{t:Trie IObj}{b:Nat}{o:IObj}(h:(hOf l t).get b=some o):(b,o)∈l∨(dom l b=false∧t.get b=some o):=by
 induction l with
 |nil=>exact .inr ⟨rfl,h⟩
 |cons e l ih=>
  simp only[hOf]at h
  rcases Trie.get_set _ _ _ _ _ _ h with⟨h1,h2⟩ |⟨h1,h2⟩
  ·injection h2 with h2;subst h1;subst h2;left;simp
  ·rcases ih h2 with h3 |⟨h3,h4⟩
   ·exact .inl (List.mem_cons_of_mem _ h3)
   ·refine .inr ⟨?_,h4⟩
    rw[dom_cons,h3,Bool.or_false]
    cases hb:Nat.beq e.1 b with
    |true=>exact absurd (Nat.eq_of_beq_eq_true hb).symm h1
    |false=>rfl
theorem cut_get{l:HL}{t:Trie IObj}{b:Nat}{o:IObj}(h:(cut l t).get b=some o):dom l b=false∧t.get b=some o:=by
 induction l with
 |nil=>exact⟨rfl,h⟩
 |cons e l ih=>
  simp only[cut]at h
  rcases Trie.get_set _ _ _ _ _ _ h with⟨h1,h2⟩ |⟨h1,h2⟩
  ·cases h2
  ·obtain⟨h3,h4⟩:=ih h2
   refine⟨?_,h4⟩
   rw[dom_cons,h3,Bool.or_false]
   cases hb:Nat.beq e.1 b with
   |true=>exact absurd (Nat.eq_of_beq_eq_true hb).symm h1
   |false=>rfl
theorem gOf_get{l:List (Nat×List IV)}{g:Nat}{cs:List IV}(h:(gOf l).get g=some cs):(g,cs)∈l:=by
 induction l with
 |nil=>simp[gOf,Trie.get]at h
 |cons e l ih=>
  simp only[gOf]at h
  rcases Trie.get_set _ _ _ _ _ _ h with⟨h1,h2⟩ |⟨h1,h2⟩
  ·injection h2 with h2;subst h1;subst h2;simp
  ·exact List.mem_cons_of_mem _ (ih h2)
def over(l0 l1:HL)(t:Trie IObj):Trie IObj:=hOf l1 (cut l0 t)
theorem over_get{l0 l1:HL}{t:Trie IObj}{b:Nat}{o:IObj}(h:(over l0 l1 t).get b=some o):(b,o)∈l1∨(dom l1 b=false∧dom l0 b=false∧t.get b=some o):=by
 rcases hOf_get h with h |⟨h1,h2⟩
 ·exact .inl h
 ·obtain⟨h3,h4⟩:=cut_get h2
  exact .inr ⟨h1,h3,h4⟩
def resIn(p:Nat->Bool):IRes->Bool
 | .ret x | .pan x=>within p 30 x
abbrev Far.and(F:Far)(Y:Nat->Prop):Far:={F with X:=fun B=>F.X B∨Y B}
theorem Far.and_like(F:Far)(Y:Nat->Prop):F.Like (F.and Y):=⟨rfl,rfl,rfl⟩
theorem callR_frame [F0:Far]{P:Program}{g:FuncId}{xs:List IV}{l0 l1:HL}{lg:List (Nat×List IV)}{N n1:Nat}{r:IRes}{H1:IHeap}
 (hc:∀ F:Far,@CallR F P g xs ⟨hOf l0 .leaf,N,gOf lg⟩ r H1) (hsub:∀ e∈l1,H1.get e.1=some e.2) (hn1:H1.next=n1)
 (hcl0:∀ e∈l0,withinO (dom l0) e.2=true) (hxs:∀ x∈xs,within (dom l0) 30 x=true) (hlg:∀ e∈lg,∀x∈e.2,tree 30 x=true)
 (hlt0:∀ e∈l0,e.1<N) (hcl1:∀ e∈l1,withinO (fun b=>dom l0 b||dom l1 b) e.2=true) (hr:resIn (fun b=>dom l0 b||dom l1 b) r=true)
 (hlt1:∀ e∈l1,N<=e.1∨dom l0 e.1=true)
 {H:IHeap} (hN:H.next=N) (hG:∀ e∈lg,H.g.get e.1=some e.2) (hin:∀ e∈l0,H.get e.1=some e.2):
 CallR P g xs H r ⟨over l0 l1 H.t,n1,H.g⟩:=by
 have hen:=(hc F0).1
 have hle:N<=n1:=by rw[<-hn1];exact(hc F0).2.1
 refine⟨hen,by rw[hN];exact hle,fun j w vs hs hv=> ?_⟩
 let Y:Nat->Prop:=fun B=>∃ b d,dom l0 b=false∧j b=some (B,d)
 let j0:J:=fun b=>match dom l0 b with |true=>j b |false=>none
 have j0t:∀ b,dom l0 b=true->j0 b=j b:=fun b h=>by show (match dom l0 b with |true=>j b |false=>none)=_;rw[h]
 have j0f:∀ b,dom l0 b=false->j0 b=none:=fun b h=>by show (match dom l0 b with |true=>j b |false=>none)=_;rw[h]
 have j0s:∀ b x,j0 b=some x->dom l0 b=true∧j b=some x:=fun b x h=>by
  cases hd:dom l0 b with
  |true=>rw[j0t b hd]at h;exact⟨rfl,h⟩
  |false=>rw[j0f b hd]at h;cases h
 have hres:∀ b x,dom l0 b=true->j b=some x->j0 b=some x:=fun b x hd h=>by rw[j0t b hd];exact h
 have has0:∀ B,¬j.has B->¬ j0.has B:=fun B h ⟨b,d,hb⟩=>h ⟨b,d,(j0s b _ hb).2⟩
 have ho:∀ B,B<w.heap.size->J.off j B->@J.off (F0.and Y) j0 B:=fun B _ h=>⟨has0 B h.1,fun hx=>by
  rcases hx with hx |⟨b,d,_,hb⟩
  ·exact h.2 hx
  ·exact h.1 ⟨b,d,hb⟩⟩
 have hs0:@Sim (F0.and Y) j0 ⟨hOf l0 .leaf,N,gOf lg⟩ w:=by
  have mem:∀ {b o},(IHeap.get ⟨hOf l0 .leaf,N,gOf lg⟩ b)=some o->(b,o)∈l0:=fun{b o} h=>by
   rcases hOf_get (show (hOf l0 .leaf).get b=some o from h)with h |⟨_,h⟩
   ·exact h
   ·simp[Trie.get]at h
  refine @Sim.mk (F0.and Y) _ _ _ ?_ ?_ ?_ ?_ ?_ ?_
  ·intro b o B d hb hj
   have hm:=mem hb
   exact withinO_ok (F0.and_like Y) hres ho (hcl0 _ hm) (hs.live b o B d (hin _ hm) (j0s b _ hj).2)
  ·intro b1 b2 o1 o2 B d1 d2 h1 h2 k1 k2
   exact hs.inj b1 b2 o1 o2 B d1 d2 (hin _ (mem h1)) (hin _ (mem h2)) (j0s _ _ k1).2 (j0s _ _ k2).2
  ·intro b hb
   cases hd:dom l0 b with
   |true=>rw[j0t b hd];exact hs.fresh b (by rw[hN];exact hb)
   |false=>exact j0f b hd
  ·intro b B d hb;exact hs.bound b B d (j0s _ _ hb).2
  ·intro g cs hg
   have hm:=gOf_get hg
   have:=hs.glob g cs (hG _ hm)
   cases this with
   |fp us hB hw hcc hvv=>exact @VR.fp (F0.and Y) _ _ _ _ _ _ us (ho _ hw hB) hw hcc fun k hk=>tree_ok (F0.and_like Y) ho 30 _ (hlg _ hm _ (List.getElem_mem hk)) _ (hvv k hk)
  ·intro B hx
   rcases hx with hx |⟨b,d,_,hb⟩
   ·exact hs.far B hx
   ·exact hs.bound b B d hb
 have hv0:@VRs (F0.and Y) j0 w xs vs:=⟨hv.1,fun k hk=>within_ok (F0.and_like Y) hres ho 30 _ (hxs _ (List.getElem_mem hk)) _ (hv.2 k hk)⟩
 refine((hc (F0.and Y)).2.2 j0 w vs hs0 hv0).mono ?_
 rintro e w' ⟨j0',q1,q2,q3,q4⟩
 let j':J:=fun b=>if b<N then j b else(match dom l1 b with |true=>j0' b |false=>none)
 have jlt:∀ b,b<N->j' b=j b:=fun b h=>if_pos h
 have jge:∀ b,¬b<N->dom l1 b=true->j' b=j0' b:=fun b h hd=>by
  show (if b<N then j b else(match dom l1 b with |true=>j0' b |false=>none))=_;rw[if_neg h,hd]
 have jno:∀ b,¬b<N->dom l1 b=false->j' b=none:=fun b h hd=>by
  show (if b<N then j b else(match dom l1 b with |true=>j0' b |false=>none))=_;rw[if_neg h,hd]
 have jsub:∀ b x,(dom l0 b||dom l1 b)=true->j0' b=some x->j' b=some x:=fun b x hd hx=>by
  by_cases hb:b<N
  ·rw[jlt b hb]
   have:j0' b=j0 b:=q3 b hb
   rw[this]at hx
   exact(j0s b x hx).2
  ·rw[Bool.or_eq_true]at hd
   have hd1:dom l1 b=true:=by
    rcases hd with hd |hd
    ·obtain⟨o,ho⟩:=dom_mem hd
     exact absurd (hlt0 _ ho) hb
    ·exact hd
   rw[jge b hb hd1];exact hx
 have jhas:∀ B,B<w.heap.size->¬ j.has B->¬ j'.has B:=fun B hB hn ⟨b,d,hb⟩=>by
  by_cases hlt:b<N
  ·rw[jlt b hlt]at hb;exact hn ⟨b,d,hb⟩
  ·cases hd:dom l1 b with
   |true=>rw[jge b hlt hd]at hb;exact(q2.keep B hB (has0 B hn)).2 ⟨b,d,hb⟩
   |false=>rw[jno b hlt hd]at hb;cases hb
 have hE:Ext j w j' w':={
  os:=q2.os
  tape:=q2.tape
  output:=q2.output
  size:=q2.size
  sub:=fun b x hx=>by
   by_cases hlt:b<N
   ·rw[jlt b hlt];exact hx
   ·have hnn:H.next<=b:=by omega
    rw[hs.fresh b hnn]at hx
    cases hx
  keep:=fun B hB hn=>⟨(q2.keep B hB (has0 B hn)).1,jhas B hB hn⟩
  cells:=q2.cells}
 have ho2:∀ B,B<w'.heap.size->@J.off (F0.and Y) j0' B->J.off j' B:=by
  intro B _ h
  refine⟨?_,fun hx=>h.2 (.inl hx)⟩
  rintro⟨b,d,hb⟩
  by_cases hlt:b<N
  ·rw[jlt b hlt]at hb
   cases hd:dom l0 b with
   |true=>
    have:j0' b=j0 b:=q3 b hlt
    exact h.1 ⟨b,d,by rw[this,j0t b hd];exact hb⟩
   |false=>exact h.2 (.inr ⟨b,d,hd,hb⟩)
  ·cases hd:dom l1 b with
   |true=>rw[jge b hlt hd]at hb;exact h.1 ⟨b,d,hb⟩
   |false=>rw[jno b hlt hd]at hb;cases hb
 have rest:∀ b o B d,dom l0 b=false->H.get b=some o->j b=some (B,d)->B<w.heap.size∧¬ j0.has B:=fun b o B d hd hb hj=>by
  refine⟨hs.bound b B d hj,?_⟩
  rintro⟨b0,d0,h0⟩
  obtain⟨h1,h2⟩:=j0s b0 _ h0
  obtain⟨o0,hm⟩:=dom_mem h1
  have:=hs.inj b b0 o o0 B d d0 hb (hin _ hm) hj h2
  subst this
  rw[hd]at h1;cases h1
 have two:∀ b o B d,(IHeap.get ⟨over l0 l1 H.t,n1,H.g⟩ b)=some o->j' b=some (B,d)->
  ((b,o)∈l1∧H1.get b=some o∧j0' b=some (B,d))∨(dom l0 b=false∧H.get b=some o∧j b=some (B,d)):=fun b o B d hb hj=>by
  rcases over_get (show (over l0 l1 H.t).get b=some o from hb)with h |⟨h1,h2,h3⟩
  ·refine .inl ⟨h,hsub _ h,?_⟩
   by_cases hlt:b<N
   ·rw[jlt b hlt]at hj
    have hd:dom l0 b=true:=(hlt1 _ h).resolve_left (by simp;exact hlt)
    have:j0' b=j0 b:=q3 b hlt
    rw[this,j0t b hd];exact hj
   ·rw[jge b hlt (mem_dom h)]at hj;exact hj
  ·refine .inr ⟨h2,h3,?_⟩
   by_cases hlt:b<N
   ·rw[jlt b hlt]at hj;exact hj
   ·rw[jno b hlt h1]at hj;cases hj
 have hS:Sim j' ⟨over l0 l1 H.t,n1,H.g⟩ w':=by
  constructor
  ·intro b o B d hb hj
   rcases two b o B d hb hj with⟨h1,h2,h3⟩ |⟨h1,h2,h3⟩
   ·exact withinO_ok (F0.and_like Y).symm jsub ho2 (hcl1 _ h1) ((@Sim.live (F0.and Y) _ _ _ q1) b o B d h2 h3)
   ·obtain⟨k1,k2⟩:=rest b o B d h1 h2 h3
    exact(hs.live b o B d h2 h3).mono hE (q2.keep B k1 k2).1
  ·intro b1 b2 o1 o2 B d1 d2 h1 h2 k1 k2
   rcases two b1 o1 B d1 h1 k1 with⟨a1,a2,a3⟩ |⟨a1,a2,a3⟩<;>rcases two b2 o2 B d2 h2 k2 with⟨c1,c2,c3⟩ |⟨c1,c2,c3⟩
   ·exact(@Sim.inj (F0.and Y) _ _ _ q1) b1 b2 o1 o2 B d1 d2 a2 c2 a3 c3
   ·obtain⟨m1,m2⟩:=rest b2 o2 B d2 c1 c2 c3
    exact absurd ⟨b1,d1,a3⟩ (q2.keep B m1 m2).2
   ·obtain⟨m1,m2⟩:=rest b1 o1 B d1 a1 a2 a3
    exact absurd ⟨b2,d2,c3⟩ (q2.keep B m1 m2).2
   ·exact hs.inj b1 b2 o1 o2 B d1 d2 a2 c2 a3 c3
  ·intro b hb
   have hb:n1<=b:=hb
   have hge:¬ b<N:=by omega
   cases hd:dom l1 b with
   |true=>rw[jge b hge hd];exact(@Sim.fresh (F0.and Y) _ _ _ q1) b (by rw[hn1];exact hb)
   |false=>exact jno b hge hd
  ·intro b B d hb
   by_cases hlt:b<N
   ·rw[jlt b hlt]at hb;exact Nat.lt_of_lt_of_le (hs.bound b B d hb) q2.size
   ·cases hd:dom l1 b with
    |true=>rw[jge b hlt hd]at hb;exact(@Sim.bound (F0.and Y) _ _ _ q1) b B d hb
    |false=>rw[jno b hlt hd]at hb;cases hb
  ·intro g cs hg;exact(hs.glob g cs hg).mono hE
  ·intro B hx;exact Nat.lt_of_lt_of_le (hs.far B hx) q2.size
 refine⟨j',hS,hE,fun b hb=>jlt b (by omega),?_⟩
 cases r with
 |ret x=>
  cases e with
  |returned v=>exact within_ok (F0.and_like Y).symm jsub ho2 30 _ hr _ q4
  |panicked ch=>exact q4.elim
  |outgrown=>exact q4.elim
 |pan x=>
  cases e with
  |returned v=>exact q4.elim
  |panicked ch=>obtain⟨v,h1,h2⟩:=q4;exact⟨v,h1,within_ok (F0.and_like Y).symm jsub ho2 30 _ hr _ h2⟩
  |outgrown=>exact q4.elim
def iveq(a b:IV):Bool:=
 match a,b with
 | .anyi k,.anyi l=>decide (k=l)
 | .anys,.anys=>true
 |a,b=>same 30 a b
theorem iveq_ok{a b:IV}(h:iveq a b=true):a=b:=by
 unfold iveq at h
 split at h
 ·rw[of_decide_eq_true h]
 ·rfl
 ·exact same_ok 30 _ _ h
def iveqs:List IV->List IV->Bool
 | [],[]=>true
 |x::xs,y::ys=>iveq x y&&iveqs xs ys
 |_,_=>false
theorem iveqs_ok:∀ {xs ys:List IV},iveqs xs ys=true->xs=ys:=by
 intro xs
 induction xs with
 |nil=>intro ys h;cases ys with |nil=>rfl |cons=>cases h
 |cons x xs ih=>
  intro ys h
  cases ys with
  |nil=>cases h
  |cons y ys=>
   simp only[iveqs,Bool.and_eq_true]at h
   rw[iveq_ok h.1,ih h.2]
def eseq:List (IV×IV×Nat)->List (IV×IV×Nat)->Bool
 | [],[]=>true
 |x::xs,y::ys=>iveq x.1 y.1&&iveq x.2.1 y.2.1&&Nat.beq x.2.2 y.2.2&&eseq xs ys
 |_,_=>false
theorem eseq_ok:∀ {xs ys:List (IV×IV×Nat)},eseq xs ys=true->xs=ys:=by
 intro xs
 induction xs with
 |nil=>intro ys h;cases ys with |nil=>rfl |cons=>cases h
 |cons x xs ih=>
  intro ys h
  cases ys with
  |nil=>cases h
  |cons y ys=>
   simp only[eseq,Bool.and_eq_true]at h
   obtain⟨⟨⟨h1,h2⟩,h3⟩,h4⟩:=h
   obtain⟨a,b,c⟩:=x
   obtain⟨a',b',c'⟩:=y
   simp only at h1 h2 h3
   rw[iveq_ok h1,iveq_ok h2,Nat.eq_of_beq_eq_true h3,ih h4]
def oeq:IObj->IObj->Bool
 | .row xs,.row ys=>iveqs xs ys
 | .map es c,.map es' c'=>Nat.beq c c'&&eseq es es'
 | .siter s p,.siter s' p'=>Nat.beq p p'&&decide (s.data.toList=s'.data.toList)
 |_,_=>false
theorem oeq_ok{a b:IObj}(h:oeq a b=true):a=b:=by
 unfold oeq at h
 split at h
 ·rw[iveqs_ok h]
 ·simp only[Bool.and_eq_true]at h
  rw[Nat.eq_of_beq_eq_true h.1,eseq_ok h.2]
 ·rename_i s p s' p'
  simp only[Bool.and_eq_true,decide_eq_true_eq]at h
  have h2:=h.2
  cases s;cases s'
  simp only at h2
  have:=Array.toList_inj.1 h2
  subst this
  rw[Nat.eq_of_beq_eq_true h.1]
 ·cases h
def heq:HL->IHeap->Bool
 | [],_=>true
 |e::l,H=>(match H.get e.1 with |some o=>oeq e.2 o&&heq l H |none=>false)
theorem heq_ok:∀ {l:HL}{H:IHeap},heq l H=true->∀ e∈l,H.get e.1=some e.2:=by
 intro l
 induction l with
 |nil=>intro H _ e he;cases he
 |cons x l ih=>
  intro H h e he
  simp only[heq]at h
  split at h
  ·rename_i o ho
   simp only[Bool.and_eq_true]at h
   rcases List.mem_cons.1 he with rfl |he
   ·rw[ho,oeq_ok h.1]
   ·exact ih h.2 e he
  ·cases h
def geq:List (Nat×List IV)->IHeap->Bool
 | [],_=>true
 |e::l,H=>(match H.g.get e.1 with |some cs=>iveqs e.2 cs&&geq l H |none=>false)
theorem geq_ok:∀ {l:List (Nat×List IV)}{H:IHeap},geq l H=true->∀ e∈l,H.g.get e.1=some e.2:=by
 intro l
 induction l with
 |nil=>intro H _ e he;cases he
 |cons x l ih=>
  intro H h e he
  simp only[geq]at h
  split at h
  ·rename_i o ho
   simp only[Bool.and_eq_true]at h
   rcases List.mem_cons.1 he with rfl |he
   ·rw[ho,iveqs_ok h.1]
   ·exact ih h.2 e he
  ·cases h
structure Memo where
 g:Nat
 N:Nat
 xs:List IV
 l0:HL
 r:IRes
 l1:HL
 n1:Nat
def reqs:IRes->IRes->Bool
 | .ret x,.ret y | .pan x,.pan y=>iveq x y
 |_,_=>false
theorem reqs_ok{a b:IRes}(h:reqs a b=true):a=b:=by
 unfold reqs at h
 split at h
 ·rw[iveq_ok h]
 ·rw[iveq_ok h]
 ·cases h
def Memo.shows(m:Memo)(lg:List (Nat×List IV))(o:Option (IRes×IHeap)):Bool:=
 (match o with
 |some (r,H1)=>reqs m.r r&&heq m.l1 H1&&Nat.beq H1.next m.n1
 |none=>false)&&
 (m.l0.all (fun e=>withinO (dom m.l0) e.2&&Nat.blt e.1 m.N))&&m.xs.all (within (dom m.l0) 30)&&(lg.all (fun e=>e.2.all (tree 30)))&&
 (m.l1.all (fun e=>withinO (fun b=>dom m.l0 b||dom m.l1 b) e.2&&(Nat.ble m.N e.1||dom m.l0 e.1)))&&resIn (fun b=>dom m.l0 b||dom m.l1 b) m.r
def memoH(m:Memo)(lg:List (Nat×List IV))(S:Oracle):Oracle:=fun g xs H=>
 match Nat.beq g m.g with
 |false=>S g xs H
 |true=>
  match Nat.beq H.next m.N with
  |false=>S g xs H
  |true=>
   match iveqs m.xs xs&&heq m.l0 H&&geq lg H with
   |true=>some (m.r,⟨over m.l0 m.l1 H.t,m.n1,H.g⟩)
   |false=>S g xs H
end Go.Eng
namespace Go.Eng
def nn(n:Int):IV:=.sc (.int .i64 n)
def nk(k:IntKind)(n:Int):IV:=.sc (.int k n)
def ss(l:List Nat):IV:=.sc (.string ⟨(l.map UInt8.ofNat).toArray⟩)
def tt:IV:=.sc (.bool true)
def ff:IV:=.sc (.bool false)
def ns:IV:=.sc (.slice none 0 0)
end Go.Eng
namespace Go.Eng
open Go.RowKit
variable [Far]
def Trie.eqB{α:Type}(f:α->α->Bool):Trie α->Trie α->Bool
 | .leaf,.leaf=>true
 | .node o l r,.node o' l' r'=>
   (match o,o' with
   |none,none=>true
   |some a,some b=>f a b
   |_,_=>false)&&(Trie.eqB f l l'&&Trie.eqB f r r')
 |_,_=>false
theorem Trie.eqB_ok{α:Type}{f:α->α->Bool}(hf:∀ a b,f a b=true->a=b):∀ (t t':Trie α),Trie.eqB f t t'=true->t=t':=by
 intro t
 induction t with
 |leaf=>intro t' h;cases t' with |leaf=>rfl |node=>cases h
 |node o l r ihl ihr=>
  intro t' h
  cases t' with
  |leaf=>cases h
  |node o' l' r'=>
   simp only[Trie.eqB,Bool.and_eq_true]at h
   obtain⟨h1,h2,h3⟩:=h
   rw[ihl _ h2,ihr _ h3]
   cases o<;>cases o'<;>simp only at h1
   ·rfl
   ·cases h1
   ·cases h1
   ·rw[hf _ _ h1]
def oeq2:IObj->IObj->Bool
 | .dfr,.dfr=>true
 | .mu a,.mu b=>Nat.beq a b
 | .lu a s,.lu b t=>Nat.beq a b&&Nat.beq s t
 |a,b=>oeq a b
theorem oeq2_ok{a b:IObj}(h:oeq2 a b=true):a=b:=by
 unfold oeq2 at h
 split at h
 ·rfl
 ·rw[Nat.eq_of_beq_eq_true h]
 ·rw[Bool.and_eq_true]at h;rw[Nat.eq_of_beq_eq_true h.1,Nat.eq_of_beq_eq_true h.2]
 ·exact oeq_ok h
def hsame(H H':IHeap):Bool:=Nat.beq H.next H'.next&&(Trie.eqB oeq2 H.t H'.t&&Trie.eqB iveqs H.g H'.g)
theorem hsame_ok{H H':IHeap}(h:hsame H H'=true):H=H':=by
 simp only[hsame,Bool.and_eq_true]at h
 obtain⟨h1,h2,h3⟩:=h
 cases H;cases H'
 simp only at h1 h2 h3
 rw[Nat.eq_of_beq_eq_true h1,Trie.eqB_ok (fun _ _=>oeq2_ok) _ _ h2,Trie.eqB_ok (fun _ _=>iveqs_ok) _ _ h3]
def noRef(m:Nat)(o:Oper):Bool:=
 o.after.all (fun e=>Nat.blt e.on m)&&(match o.guard with |none=>true |some (g,_)=>Nat.blt g m)
def lastTwo(ops:Array Oper):Option (List Oper×Oper×Oper):=
 match ops.toList.reverse with
 |y::x::r=>if y.dst.isNone&&x.dst.isNone&&ops.toList.all (noRef r.length)then some (r.reverse,x,y)else none
 |_=>none
def withLast(l:List Oper)(x y:Oper):Array Oper:=addEdge (l++[x,y]).toArray (l.length+1) ⟨l.length,.chain⟩
theorem lastTwo_ok{ops:Array Oper}{l:List Oper}{x y:Oper}(h:lastTwo ops=some (l,x,y)):
 ops=(l++[x,y]).toArray∧x.dst=none∧y.dst=none∧∀ (i:Nat) (o:Oper),ops[i]? =some o->noRef l.length o=true:=by
 unfold lastTwo at h
 split at h
 ·rename_i y' x' r hr
  split at h
  ·rename_i hc
   injection h with h
   injection h with h1 h2
   injection h2 with h2 h3
   subst h1;subst h2;subst h3
   simp only[Bool.and_eq_true]at hc
   have hl:ops.toList=r.reverse++[x',y']:=by
    have:=congrArg List.reverse hr
    rw[List.reverse_reverse]at this
    rw[this];simp
   refine⟨by rw[<-hl],by simpa using hc.1.2,by simpa using hc.1.1,fun i o ho=> ?_⟩
   have:=List.all_eq_true.1 hc.2 o (by have:=Array.mem_of_getElem? ho;simpa using this)
   rw[List.length_reverse];exact this
  ·cases h
 ·cases h
def evDraw2{P:Program}(T:TO P)(C:Oracle)(Y:YOracle):Draws:=fun n ops s=>
 match evDraw T C Y n ops s with
 |some r=>some r
 |none=>
  match lastTwo ops with
  |none=>none
  |some (l,x,y)=>
   match evDraw T C Y n (withLast l x y) s with
   |some (.normal,a)=>
    (match evDraw T C Y n (withLast l y x) s with
    |some (.normal,b)=>if hsame a.H b.H&&Trie.eqB iveq a.env b.env then some (.normal,a)else none
    |_=>none)
   |_=>none
theorem drawFrom_ds{P:Program}{T:TO P}{C:Oracle}{Y:YOracle}{ops:Array Oper}{s:IState}{slots:Nat}{H0:IHeap}{r:IOut×IState}(h:(drawFrom T C Y ops s slots H0).2=some r):r.2.ds=s.ds:=by
 unfold drawFrom at h
 split at h
 ·cases h
 ·simp only at h
  split at h
  ·split at h
   ·injection h with h;subst h;rfl
   ·injection h with h;subst h;rfl
   ·cases h
  ·cases h
theorem evDraw_ds{P:Program}{T:TO P}{C:Oracle}{Y:YOracle}{n:Nat}{ops:Array Oper}{s:IState}{r:IOut×IState}(h:evDraw T C Y n ops s=some r):r.2.ds=s.ds:=by
 unfold evDraw at h
 split at h
 ·cases h
 ·split at h
  ·rename_i hd
   injection h with h;subst h
   exact drawFrom_ds (by rw[hd])
  ·exact drawFrom_ds h
  ·cases h
theorem evDraw2_ok{P:Program}(hm:P.follows .mixedOrders=true)(T:TO P){C:Oracle}(hC:CallOk P C){Y:YOracle}(hY:YOk P Y):DrawsOk P (evDraw2 T C Y):=by
 refine⟨hm,?_⟩
 intro n ops s r h
 unfold evDraw2 at h
 split at h
 ·rename_i r' hr
  injection h with h;subst h
  exact(evDraw_ok hm T hC hY).2 n ops s _ hr
 ·split at h
  ·cases h
  ·rename_i l x y hl
   obtain⟨hops,hx,hy,href⟩:=lastTwo_ok hl
   split at h
   ·rename_i a ha
    split at h
    ·rename_i b hb
     split at h
     ·rename_i hc
      injection h with h;subst h
      rw[Bool.and_eq_true]at hc
      have hH:=hsame_ok hc.1
      have hE:=Trie.eqB_ok (fun _ _=>iveq_ok) _ _ hc.2
      have hab:a=b:=by
       have d1:=evDraw_ds ha
       have d2:=evDraw_ds hb
       cases a;cases b
       simp only at hH hE d1 d2
       rw[hH,hE,d1,d2]
      subst hab
      obtain⟨g1,g2⟩:=(evDraw_ok hm T hC hY).2 n _ s _ ha
      obtain⟨_,g3⟩:=(evDraw_ok hm T hC hY).2 n _ s _ hb
      refine⟨g1,fun ro j w act hs Q hQ=> ?_⟩
      have hsz:ops.size=l.length+2:=by rw[hops];simp
      have s1:(withLast l x y).size=ops.size:=by rw[hsz];simp[withLast,addEdge]
      have s2:(withLast l y x).size=ops.size:=by rw[hsz];simp[withLast,addEdge]
      have k1:=g2 ro j w act hs Q hQ
      have k2:=g3 ro j w act hs Q hQ
      rw[s1]at k1
      rw[s2]at k2
      have get:∀ (u v:Oper) (i:Nat),(l++[u,v]).toArray[i]? =if i<l.length then l[i]? else if i=l.length then some u else if i=l.length+1 then some v else none:=by
       intro u v i
       simp only[List.getElem?_toArray]
       by_cases h1:i<l.length
       ·rw[if_pos h1,List.getElem?_append_left h1]
       ·rw[if_neg h1,List.getElem?_append_right (by omega)]
        by_cases h2:i=l.length
        ·subst h2;simp
        ·rw[if_neg h2]
         by_cases h3:i=l.length+1
         ·subst h3;simp
         ·rw[if_neg h3,List.getElem?_eq_none (by simp;omega)]
      refine two_orders (ops:=ops) (ops':=(l++[y,x]).toArray) (x:=l.length) (y:=l.length+1) (e:=⟨l.length,.chain⟩) (by omega) (by omega) rfl (by rw[hsz];simp) ?_ ?_ ?_ ?_ ?_
      ·intro i
       rw[hops,get,get]
       unfold swp
       by_cases h1:i=l.length
       ·subst h1;simp
       ·by_cases h2:i=l.length+1
        ·subst h2;simp
        ·simp[h1,h2]
      ·intro t
       funext g
       unfold yielded
       rw[hops,get,get]
       by_cases h1:g<l.length
       ·simp[h1]
       ·by_cases h2:g=l.length
        ·subst h2;simp[hx,hy]
        ·by_cases h3:g=l.length+1
         ·subst h3
          have h4:¬ (l.length+1<l.length):=by omega
          simp[h4,hx,hy]
         ·simp[h1,h2,h3]
      ·intro i o ho e he
       have:=href i o ho
       unfold noRef at this
       rw[Bool.and_eq_true,Array.all_eq_true_iff_forall_mem]at this
       have hlt:=Nat.blt_eq▸this.1 e he
       have hlt:e.on<l.length:=by simpa[Nat.blt_eq]using hlt
       unfold swp
       rw[if_neg (by omega),if_neg (by omega)]
      ·have e1:addEdge ops (l.length+1) ⟨l.length,.chain⟩=withLast l x y:=by rw[hops];rfl
       rw[e1];exact k1
      ·exact k2
     ·cases h
    ·cases h
   ·cases h
end Go.Eng
namespace Go.Eng
open Go.RowKit
inductive Kfact where
 |bin (op:BinOp)(t:TypeId)(a b z:IV)
 |eq (t:TypeId)(a b:IV)(r:Bool)
 |conv (s d:TypeId)(a z:IV)
 |len (t:TypeId)(a z:IV)
 |row (t:TypeId)(a i z:IV)
 |idx (t:TypeId)(a i z:IV)
 |look (t:TypeId)(m:Nat)(k:IV)(ok:Bool)(z:IV)
 |upd (t:TypeId)(m:Nat)(k x:IV)(m':Nat)
def opEq(a b:BinOp):Bool:=decide (a=b)
theorem opEq_ok{a b:BinOp}(h:opEq a b=true):a=b:=of_decide_eq_true h
section
variable [Far]
def Kfact.Holds(P:Program):Kfact->Prop
 | .bin op t a b z=>∀ (j:J)(w:World)(va vb:Value),VR j w a va->VR j w b vb->∀ x y:Operand,∃v,(do eqGuard op t x y va vb;binOp op t va vb:Sem Value).run P w=.ok v w∧VR j w z v
 | .eq t a b r=>∀ (j:J)(w:World)(va vb:Value),VR j w a va->VR j w b vb->∀ d,(Op.equalIn (d+1) t va vb).run P w=.ok r w
 | .conv s d a z=>∀ (j:J)(w:World)(va:Value),VR j w a va->∃ v,(convert s d va).run P w=.ok v w∧VR j w z v
 | .len t a z=>∀ (j:J)(w:World)(va:Value),VR j w a va->∀ (ts:Array TypeId),ts[0]? =some t->∀ ty:TypeId,∃v,(Builtin.len_ ts ty #[va]).run P w=.ok v w∧VR j w z v
 | .row t a i z=>∀ (j:J)(w:World)(va vi:Value),VR j w a va->VR j w i vi->∃ v,(Instr.indexAt t va vi).run P w=.ok v w∧VR j w z v
 | .idx t a i z=>∀ (j:J)(w:World)(va vi:Value),VR j w a va->VR j w i vi->∃ v,(Instr.index t va vi).run P w=.ok v w∧VR j w z v
 | .look t m k ok z=>∀ (j:J)(w:World)(B:Nat)(vk:Value),OR j w B 0 (.mu m)->VR j w k vk->∃ v,(Instr.lookup t (.map (some B)) vk ok).run P w=.ok v w∧VR j w z v
 | .upd t m k x m'=>∀ (j:J)(w:World)(B:Nat)(vk vx:Value),OR j w B 0 (.mu m)->VR j w k vk->VR j w x vx->
  ∃es c,(Instr.mapUpdate t (.map (some B)) vk vx).run P w=.ok () {w with heap:=w.heap.setIfInBounds B (.map es c)}∧(∀w':World,w'.heap[B]? =some (.map es c)->OR j w' B 0 (.mu m'))
def fbinL:List Kfact->BinOp->TypeId->IV->IV->Option IV
 | [],_,_,_,_=>none
 | .bin op t a b z::l,op',t',a',b'=>if opEq op op'&&Nat.beq t t'&&iveq a a'&&iveq b b' then some z else fbinL l op' t' a' b'
 |_::l,op',t',a',b'=>fbinL l op' t' a' b'
def isSc:IV->Bool
 | .sc _=>true
 |_=>false
def fbinF(l:List Kfact)(op:BinOp)(t:TypeId)(a b:IV):Option IV:=if isSc a&&isSc b then none else fbinL l op t a b
def feqL:List Kfact->TypeId->IV->IV->Option Bool
 | [],_,_,_=>none
 | .eq t a b z::l,t',a',b'=>if Nat.beq t t'&&iveq a a'&&iveq b b' then some z else feqL l t' a' b'
 |_::l,t',a',b'=>feqL l t' a' b'
def fconvL:List Kfact->TypeId->TypeId->IV->Option IV
 | [],_,_,_=>none
 | .conv s d a z::l,s',d',a'=>if Nat.beq s s'&&Nat.beq d d'&&iveq a a' then some z else fconvL l s' d' a'
 |_::l,s',d',a'=>fconvL l s' d' a'
def flenL:List Kfact->TypeId->IV->Option IV
 | [],_,_=>none
 | .len t a z::l,t',a'=>if Nat.beq t t'&&iveq a a' then some z else flenL l t' a'
 |_::l,t',a'=>flenL l t' a'
def frowL:List Kfact->TypeId->IV->IV->Option IV
 | [],_,_,_=>none
 | .row t a i z::l,t',a',i'=>if Nat.beq t t'&&iveq a a'&&iveq i i' then some z else frowL l t' a' i'
 |_::l,t',a',i'=>frowL l t' a' i'
def fidxL:List Kfact->TypeId->IV->IV->Option IV
 | [],_,_,_=>none
 | .idx t a i z::l,t',a',i'=>if Nat.beq t t'&&iveq a a'&&iveq i i' then some z else fidxL l t' a' i'
 |_::l,t',a',i'=>fidxL l t' a' i'
def flookL:List Kfact->TypeId->Nat->IV->Bool->Option IV
 | [],_,_,_,_=>none
 | .look t m k ok z::l,t',m',k',ok'=>if Nat.beq t t'&&Nat.beq m m'&&iveq k k'&&(ok==ok')then some z else flookL l t' m' k' ok'
 |_::l,t',m',k',ok'=>flookL l t' m' k' ok'
def fupdL:List Kfact->TypeId->Nat->IV->IV->Option Nat
 | [],_,_,_,_=>none
 | .upd t m k x z::l,t',m',k',x'=>if Nat.beq t t'&&Nat.beq m m'&&iveq k k'&&iveq x x' then some z else fupdL l t' m' k' x'
 |_::l,t',m',k',x'=>fupdL l t' m' k' x'
theorem fbinL_ok:∀ {l:List Kfact}{op:BinOp}{t:TypeId}{a b z:IV},fbinL l op t a b=some z->.bin op t a b z∈l:=by
 intro l
 induction l with
 |nil=>intro op t a b z h;cases h
 |cons f l ih=>
  intro op t a b z h
  cases f<;>simp only[fbinL]at h<;>(try exact List.mem_cons_of_mem _ (ih h))
  split at h
  ·rename_i hc
   simp only[Bool.and_eq_true]at hc
   obtain⟨⟨⟨h1,h2⟩,h3⟩,h4⟩:=hc
   injection h with h
   rw[opEq_ok h1,Nat.eq_of_beq_eq_true h2,iveq_ok h3,iveq_ok h4,h];simp
  ·exact List.mem_cons_of_mem _ (ih h)
theorem feqL_ok:∀ {l:List Kfact}{t:TypeId}{a b:IV}{z:Bool},feqL l t a b=some z->.eq t a b z∈l:=by
 intro l
 induction l with
 |nil=>intro t a b z h;cases h
 |cons f l ih=>
  intro t a b z h
  cases f<;>simp only[feqL]at h<;>(try exact List.mem_cons_of_mem _ (ih h))
  split at h
  ·rename_i hc
   simp only[Bool.and_eq_true]at hc
   obtain⟨⟨h2,h3⟩,h4⟩:=hc
   injection h with h
   rw[Nat.eq_of_beq_eq_true h2,iveq_ok h3,iveq_ok h4,h];simp
  ·exact List.mem_cons_of_mem _ (ih h)
theorem fconvL_ok:∀ {l:List Kfact}{s d:TypeId}{a z:IV},fconvL l s d a=some z->.conv s d a z∈l:=by
 intro l
 induction l with
 |nil=>intro s d a z h;cases h
 |cons f l ih=>
  intro s d a z h
  cases f<;>simp only[fconvL]at h<;>(try exact List.mem_cons_of_mem _ (ih h))
  split at h
  ·rename_i hc
   simp only[Bool.and_eq_true]at hc
   obtain⟨⟨h2,h3⟩,h4⟩:=hc
   injection h with h
   rw[Nat.eq_of_beq_eq_true h2,Nat.eq_of_beq_eq_true h3,iveq_ok h4,h];simp
  ·exact List.mem_cons_of_mem _ (ih h)
theorem flenL_ok:∀ {l:List Kfact}{t:TypeId}{a z:IV},flenL l t a=some z->.len t a z∈l:=by
 intro l
 induction l with
 |nil=>intro t a z h;cases h
 |cons f l ih=>
  intro t a z h
  cases f<;>simp only[flenL]at h<;>(try exact List.mem_cons_of_mem _ (ih h))
  split at h
  ·rename_i hc
   simp only[Bool.and_eq_true]at hc
   obtain⟨h2,h4⟩:=hc
   injection h with h
   rw[Nat.eq_of_beq_eq_true h2,iveq_ok h4,h];simp
  ·exact List.mem_cons_of_mem _ (ih h)
theorem frowL_ok:∀ {l:List Kfact}{t:TypeId}{a i z:IV},frowL l t a i=some z->.row t a i z∈l:=by
 intro l
 induction l with
 |nil=>intro t a i z h;cases h
 |cons f l ih=>
  intro t a i z h
  cases f<;>simp only[frowL]at h<;>(try exact List.mem_cons_of_mem _ (ih h))
  split at h
  ·rename_i hc
   simp only[Bool.and_eq_true]at hc
   obtain⟨⟨h2,h3⟩,h4⟩:=hc
   injection h with h
   rw[Nat.eq_of_beq_eq_true h2,iveq_ok h3,iveq_ok h4,h];simp
  ·exact List.mem_cons_of_mem _ (ih h)
theorem fidxL_ok:∀ {l:List Kfact}{t:TypeId}{a i z:IV},fidxL l t a i=some z->.idx t a i z∈l:=by
 intro l
 induction l with
 |nil=>intro t a i z h;cases h
 |cons f l ih=>
  intro t a i z h
  cases f<;>simp only[fidxL]at h<;>(try exact List.mem_cons_of_mem _ (ih h))
  split at h
  ·rename_i hc
   simp only[Bool.and_eq_true]at hc
   obtain⟨⟨h2,h3⟩,h4⟩:=hc
   injection h with h
   rw[Nat.eq_of_beq_eq_true h2,iveq_ok h3,iveq_ok h4,h];simp
  ·exact List.mem_cons_of_mem _ (ih h)
theorem flookL_ok:∀ {l:List Kfact}{t:TypeId}{m:Nat}{k:IV}{ok:Bool}{z:IV},flookL l t m k ok=some z->.look t m k ok z∈l:=by
 intro l
 induction l with
 |nil=>intro t m k ok z h;cases h
 |cons f l ih=>
  intro t m k ok z h
  cases f<;>simp only[flookL]at h<;>(try exact List.mem_cons_of_mem _ (ih h))
  split at h
  ·rename_i hc
   simp only[Bool.and_eq_true,beq_iff_eq]at hc
   obtain⟨⟨⟨h2,h3⟩,h4⟩,h5⟩:=hc
   injection h with h
   rw[Nat.eq_of_beq_eq_true h2,Nat.eq_of_beq_eq_true h3,iveq_ok h4,h5,h];simp
  ·exact List.mem_cons_of_mem _ (ih h)
theorem fupdL_ok:∀ {l:List Kfact}{t:TypeId}{m:Nat}{k x:IV}{z:Nat},fupdL l t m k x=some z->.upd t m k x z∈l:=by
 intro l
 induction l with
 |nil=>intro t m k x z h;cases h
 |cons f l ih=>
  intro t m k x z h
  cases f<;>simp only[fupdL]at h<;>(try exact List.mem_cons_of_mem _ (ih h))
  split at h
  ·rename_i hc
   simp only[Bool.and_eq_true]at hc
   obtain⟨⟨⟨h2,h3⟩,h4⟩,h5⟩:=hc
   injection h with h
   rw[Nat.eq_of_beq_eq_true h2,Nat.eq_of_beq_eq_true h3,iveq_ok h4,iveq_ok h5,h];simp
  ·exact List.mem_cons_of_mem _ (ih h)
def TO.know{P:Program}(T:TO P)(l:List Kfact)(h:∀ f∈l,f.Holds P):TO P:=
 {T with
  fbin:=fbinF l
  hfbin:=fun op t a b z hz=>by
   unfold fbinF at hz
   split at hz
   ·cases hz
   ·exact h _ (fbinL_ok hz)
  feq:=feqL l
  hfeq:=fun t a b r hz=>h _ (feqL_ok hz)
  fconv:=fconvL l
  hfconv:=fun s d a z hz=>h _ (fconvL_ok hz)
  flen:=flenL l
  hflen:=fun t a z hz=>h _ (flenL_ok hz)
  frow:=frowL l
  hfrow:=fun t a i z hz=>h _ (frowL_ok hz)
  findx:=fidxL l
  hfindx:=fun t a i z hz=>h _ (fidxL_ok hz)
  flook:=flookL l
  hflook:=fun t m k ok z hz=>h _ (flookL_ok hz)
  fupd:=fupdL l
  hfupd:=fun t m k x m' hz=>h _ (fupdL_ok hz)}
end
end Go.Eng
