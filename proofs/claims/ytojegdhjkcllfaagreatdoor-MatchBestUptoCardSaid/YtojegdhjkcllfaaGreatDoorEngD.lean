/- The engine. -/
import Derived.Test.YtojegdhjkcllfaaGreatDoorEngC
import Derived.Shelf.SlicesE.Clone
import Derived.ChangeArms
import Derived.Deep.Slices
import Derived.DataReads
import Derived.DataElems
import Derived.WideShapes
set_option linter.all false
namespace Go.Eng
open Go.RowKit
def inB(p:Nat->Bool):Nat->IV->Bool
 |0,_=>false
 |k+1,x=>
  match x with
  | .ptr b _ | .sl b _ _ _ | .sg b _ _ _ | .map b | .su b _ _ | .pu b _ _=>p b
  | .fn _ xs ys=>xs.all (inB p k)&&ys.all (inB p k)
  | .iface _ y=>inB p k y
  | .agg xs | .tup xs=>xs.all (inB p k)
  | .yld _=>false
  |_=>true
theorem inB_ok{p:Nat->Bool}:∀ (k:Nat)(x:IV),inB p k x=true->In (fun b=>p b=true) x:=by
 intro k
 induction k with
 |zero=>intro x h;cases h
 |succ k ih=>
  intro x h
  have lst:∀ {l:List IV},l.all (inB p k)=true->∀ y∈l,In (fun b=>p b=true) y:=fun hl y hy=>ih y (List.all_eq_true.1 hl y hy)
  cases x<;>simp only[inB,Bool.and_eq_true,Bool.false_eq_true]at h
  case junk=>exact .junk
  case sc=>exact .sc
  case gl=>exact .gl
  case anyi=>exact .anyi
  case anys=>exact .anys
  case es=>exact .es
  case un=>exact .un
  case fu=>exact .fu
  case ptr=>exact .ptr h
  case sl=>exact .sl h
  case sg=>exact .sg h
  case su=>exact .su h
  case pu=>exact .pu h
  case map=>exact .map h
  case fp=>exact .fp
  case fs=>exact .fs
  case fn=>exact .fn (lst h.1) (lst h.2)
  case iface=>exact .iface (ih _ h)
  case agg=>exact .agg (lst h)
  case tup=>exact .tup (lst h)
def inBO(p:Nat->Bool):IObj->Bool
 | .mu _ | .lu _ _=>true
 | .row xs=>xs.all (inB p 20)
 | .map es _=>es.all fun e=>inB p 20 e.1&&inB p 20 e.2.1
 |_=>false
theorem inBO_ok{p:Nat->Bool}{o:IObj}(h:inBO p o=true):InO (fun b=>p b=true) o:=by
 cases o<;>simp only[inBO,Bool.false_eq_true]at h
 case mu=>exact .mu
 case lu=>exact .lu
 case row xs=>exact .row fun x hx=>inB_ok 20 x (List.all_eq_true.1 h x hx)
 case map es c=>
  refine .map fun e he=> ?_
  have:=List.all_eq_true.1 h e he
  rw[Bool.and_eq_true]at this
  exact⟨inB_ok 20 _ this.1,inB_ok 20 _ this.2⟩
def inBR(p:Nat->Bool):IRes->Bool
 | .ret x | .pan x=>inB p 20 x
theorem inBR_ok{p:Nat->Bool}{r:IRes}(h:inBR p r=true):InR (fun b=>p b=true) r:=by
 cases r
 ·exact .ret (inB_ok 20 _ h)
 ·exact .pan (inB_ok 20 _ h)
def ctForm(t:Ct):Bool:=
 t.l1.all (fun e=>match(hOf t.l1 .leaf).get e.1 with |some o=>oeq2 o e.2 |none=>false)&&(t.l0.all (fun e=>inBO (dom t.l0) e.2&&Nat.blt e.1 t.N)&&(t.xs.all (inB (dom t.l0) 20)&&
  (t.l1.all (fun e=>inBO (fun b=>dom t.l0 b||dom t.l1 b) e.2&&(Nat.ble t.N e.1||dom t.l0 e.1))&&inBR (fun b=>dom t.l0 b||dom t.l1 b) t.r)))
theorem in_or{p q:Nat->Bool}{P Q:Nat->Prop}(h:∀ b,(p b||q b)=true->P b∨Q b):∀ {x:IV},In (fun b=>(p b||q b)=true) x->In (fun b=>P b∨Q b) x:=by
 intro x hx
 induction hx with
 |ptr hp=>exact .ptr (h _ hp)
 |sl hp=>exact .sl (h _ hp)
 |sg hp=>exact .sg (h _ hp)
 |su hp=>exact .su (h _ hp)
 |pu hp=>exact .pu (h _ hp)
 |map hp=>exact .map (h _ hp)
 |fn h1 h2 ih1 ih2=>exact .fn ih1 ih2
 |iface h1 ih=>exact .iface ih
 |agg h1 ih=>exact .agg ih
 |tup h1 ih=>exact .tup ih
 |_=>constructor
theorem ctForm_ok [F0:Far]{P:Program}{lg:List (Nat×List IV)}{t:Ct}(h:ctForm t=true)(hr:∀ F:Far,F0.Like F->@CallR F P t.g t.xs ⟨hOf t.l0 .leaf,t.N,gOf lg⟩ t.r ⟨hOf t.l1 .leaf,t.n1,gOf lg⟩):CtOk P lg t:=by
 unfold ctForm at h
 simp only[Bool.and_eq_true]at h
 obtain⟨h1,h2,h3,h4,h5⟩:=h
 have ho:∀ b,(dom t.l0 b||dom t.l1 b)=true->dom t.l0 b=true∨dom t.l1 b=true:=fun b hb=>by simpa using hb
 refine⟨hr,?_,?_,?_,?_,?_,?_,?_⟩
 ·intro e he
  have:=List.all_eq_true.1 h1 e he
  split at this
  ·rename_i o hg;rw[hg,oeq2_ok this]
  ·cases this
 ·intro e he
  have:=List.all_eq_true.1 h2 e he
  rw[Bool.and_eq_true]at this
  exact inBO_ok this.1
 ·intro x hx;exact inB_ok 20 x (List.all_eq_true.1 h3 x hx)
 ·intro e he
  have:=List.all_eq_true.1 h2 e he
  rw[Bool.and_eq_true]at this
  simpa[Nat.blt_eq]using this.2
 ·intro e he
  have:=List.all_eq_true.1 h4 e he
  rw[Bool.and_eq_true]at this
  have:=inBO_ok this.1
  generalize e.2=q at this
  cases this with
  |mu=>exact .mu
  |lu=>exact .lu
  |row hx=>exact .row fun x hx'=>in_or ho (hx x hx')
  |map hx=>exact .map fun e he=>⟨in_or ho (hx e he).1,in_or ho (hx e he).2⟩
 ·have:=inBR_ok h5
  generalize t.r=q at this
  cases this with
  |ret hx=>exact .ret (in_or ho hx)
  |pan hx=>exact .pan (in_or ho hx)
 ·intro e he
  have:=List.all_eq_true.1 h4 e he
  simp only[Bool.and_eq_true,Bool.or_eq_true]at this
  rcases this.2 with h |h
  ·exact .inl (Nat.le_of_ble_eq_true h)
  ·exact .inr h
def retOf [Far]{P:Program}(T:TO P)(lg:List (Nat×List IV))(rs:List ResultVar)(o:IOut)(st:St):Option IRes:=
 match o with
 | .normal | .ret=>(iresults T (mkEnv st.env) (st.H lg) rs).map .ret
 | .pan x=>some (.pan x)
 | .exit _=>none
theorem sim_less [Far]{j:J}{H H':IHeap}{w:World}(h:Sim j H w)(hs:∀ b o,H'.get b=some o->H.get b=some o)(hn:H.next<=H'.next)(hg:H'.g=H.g):Sim j H' w:=
 ⟨fun b o B d hb hj=>h.live b o B d (hs b o hb) hj,fun b1 b2 o1 o2 B d1 d2 h1 h2 h3 h4=>h.inj b1 b2 o1 o2 B d1 d2 (hs _ _ h1) (hs _ _ h2) h3 h4,fun b hb=>h.fresh b (Nat.le_trans hn hb),h.bound,fun g cs hc=>h.glob g cs (by rw[<-hg];exact hc),h.far⟩
theorem hOf_mem{l:HL}{b:Nat}{o:IObj}(h:(hOf l .leaf).get b=some o):(b,o)∈l:=heap_mem h
theorem callR_fn [Far]{P:Program}{T:TO P}{FF:FTab}(hF:FTabOk P FF){g:FuncId}{fi:FI}(hfi:FF g=some fi){lg:List (Nat×List IV)}{xs:List IV}{l0 l1:HL}{N n1:Nat}{o:IOut}{st:St}{r:IRes}
 (hS:Sound P false (xs.length+(fi.ntmps - xs.length)) fi.body ((⟨numb 0 xs,l0,N⟩:St).to lg) (o,st.to lg)) (hr:retOf T lg fi.results o st=some r) (hl:l1.all (fun e=>match(hOf st.heap .leaf).get e.1 with |some o=>oeq2 o e.2 |none=>false)=true) (hn:st.next<=n1):
 CallR P g xs ⟨hOf l0 .leaf,N,gOf lg⟩ r ⟨hOf l1 .leaf,n1,gOf lg⟩:=by
 obtain⟨hen,fn,f1,f2,f3,f4⟩:=hF _ _ hfi
 obtain⟨g1,g2⟩:=hS
 refine⟨hen,Nat.le_trans g1 hn,fun j w vs hs hv=> ?_⟩
 refine(callsIn_wide (n:=0)).1 (callsIn_of_wp_marks f1 f2 trivial ?_ rfl)
 have hinit:=SR.init hs hv fn.ntmps
 rw[f3]at hinit ⊢
 have hinit':SR (xs.length+(fi.ntmps - xs.length)) j ((⟨numb 0 xs,l0,N⟩:St).to lg) {tmps:=vs++Array.replicate (fi.ntmps - vs.size) undef,defers:=[]} w:=by
  refine⟨?_,hinit.size,.nil,hs⟩
  intro t x ht
  obtain⟨k,hk,he⟩:=numb_mem (mkEnv_get ht)
  injection he with h1 h2
  subst h1;subst h2
  have:=hv.2 k hk
  have hsz:vs.size=xs.length:=hv.1
  refine⟨by simp only[Array.size_append];omega,?_⟩
  have hk':0+k<(vs++Array.replicate (fi.ntmps - vs.size) undef).size:=by simp only[Array.size_append];omega
  have e:(vs++Array.replicate (fi.ntmps - vs.size) undef).getD (0+k) undef=vs.getD k undef:=by
   simp only[Array.getD_eq_getD_getElem?,Nat.zero_add]
   rw[Array.getElem?_append_left (by omega)]
  rw[e];exact this
 refine g2 none (fun _=>rfl) j w _ hinit' _ ?_
 intro e j' a' w' k1 k2 k3 k4
 have hsim:Sim j' ⟨hOf l1 .leaf,n1,gOf lg⟩ w':=by
  refine sim_less k2.sim ?_ hn rfl
  intro b o' hb
  have:=List.all_eq_true.1 hl _ (hOf_mem hb)
  split at this
  ·rename_i q hq
   have h2:(st.to lg).H.get b=some q:=hq
   rw[h2,oeq2_ok this]
  ·cases this
 have go:∀ (m:IMode) u,evLeave T (fun _ _ _ _=>none) (st.to lg).env fi.results [] m (st.to lg).H=some (r,(st.to lg).H)->ModeR j' w' m u->LeavesInM Fence.wide 0 P fn a'.tmps (fun e w'=>∃ j',Sim j' ⟨hOf l1 .leaf,n1,gOf lg⟩ w'∧Ext j w j' w'∧Stay N j j'∧EndR j' w' r e) a'.defers u w':=by
  intro m u he hmu
  obtain⟨g3,g4⟩:=evLeave_ok T (O:=fun _ _ _ _=>none) (fun _ _ _ _ _ _ h=>by cases h) _ _ _ _ _ he
  refine g4 j' w' a'.tmps a'.defers u fn f4 k2.env k2.ds k2.sim hmu _ ?_
  intro e j2 w2 z1 z2 z3 z4
  refine⟨j2,?_,k3.trans z2,k4.trans z3 g1,z4⟩
  refine sim_less z1 ?_ hn rfl
  intro b o' hb
  have:=List.all_eq_true.1 hl _ (hOf_mem hb)
  split at this
  ·rename_i q hq
   have h2:(st.to lg).H.get b=some q:=hq
   rw[h2,oeq2_ok this]
  ·cases this
 have res:∀ x,iresults T (mkEnv st.env) (st.H lg) fi.results=some x->r=.ret x->evLeave T (fun _ _ _ _=>none) (st.to lg).env fi.results [] .ret (st.to lg).H=some (r,(st.to lg).H):=by
  intro x hx hrx
  simp only[evLeave]
  have:iresults T (st.to lg).env (st.to lg).H fi.results=some x:=hx
  rw[this,hrx]
 cases o with
 |normal=>
  simp only[retOf]at hr
  obtain⟨x,hx,he⟩:=Option.map_eq_some_iff.1 hr
  cases k1;exact go .ret _ (res x hx he.symm) rfl
 |ret=>
  simp only[retOf]at hr
  obtain⟨x,hx,he⟩:=Option.map_eq_some_iff.1 hr
  cases k1;exact go .ret _ (res x hx he.symm) rfl
 |pan x=>
  simp only[retOf]at hr
  injection hr with hr
  obtain⟨v,rfl,hv⟩:=k1
  exact go (.pan x) _ (by simp only[evLeave,hr]) ⟨v,rfl,hv⟩
 |exit id=>cases hr
structure Fit where
 a:Nat
 su:List IV
 sf:List Nat
 sm:List Nat
def Fit.nm(C:Con)(K:Know)(f:Fit):NM:=⟨(List.range C.u.length).map .un++f.su,List.range C.f.length++f.sf,List.range C.m++f.sm,K.c⟩
def hlEq(a b:HL):Bool:=all2 (fun x y=>Nat.beq x.1 y.1&&oeq2 x.2 y.2) a b
theorem hlEq_ok [Far]{a b:HL}(h:hlEq a b=true):a=b:=by
 obtain⟨h1,h2⟩:=all2_ok h
 refine List.ext_getElem h1 fun k hk hk'=> ?_
 have:=h2 k hk hk'
 rw[Bool.and_eq_true]at this
 exact Prod.ext (Nat.eq_of_beq_eq_true this.1) (oeq2_ok this.2)
def retX [Far]{P:Program}(T:TO P)(lg:List (Nat×List IV))(cm:Bool)(rs:List ResultVar)(o:IOut)(st:St):Option IRes:=match cm with |false=>retOf T lg rs o st |true=>encR o st
def endOk [Far]{P:Program}(T:TO P)(lg:List (Nat×List IV))(C:Con)(cm:Bool)(rs:List ResultVar)(e:IOut×St×Know)(f:Fit):Bool:=
 match C.alts[f.a]? with
 |some a=>
  let σ:=f.nm C e.2.2
  (match retX T lg cm rs e.1 e.2.1 with |some r=>resEq r (nsR σ a.r) |none=>false)&&
  ((a.l1.map fun q=>(q.1,nsO σ q.2)).all (fun q=>match(hOf e.2.1.heap .leaf).get q.1 with |some o=>oeq2 o q.2 |none=>false)&&(Nat.ble e.2.1.next a.n1&&
  (atoms σ&&(ctForm (C.ct a)&&((C.ct a).nlN (C.ac a)&&(iveqs (C.xs.map (nsV σ 20)) C.xs&&(hlEq (C.l0.map fun q=>(q.1,nsO σ q.2)) C.l0&&
  (all2 (fun x t=>atomTy e.2.2 x t) f.su a.u&&(all2 (fun s n=>(match e.2.2.rowsOf s with |some n'=>Nat.beq n' n |none=>false)) f.sf a.f&&(Nat.beq f.sm.length a.m&&
  a.rels.all (fun r=>r.nlN (C.ac a)&&relOk e.2.2 (r.ns σ))))))))))))
 |none=>false
def Con.K0(C:Con):Know:=⟨C.c,[],numb 0 C.u,numb 0 C.f,C.pre,[],[]⟩
def Con.s0(C:Con):St:=⟨numb 0 C.xs,C.l0,C.N⟩
def Con.X(RT:RTab)(lg:List (Nat×List IV))(C:Con)(fi:FI)(cm:Bool:=false):Ctx:=⟨RT,lg,C.xs.length+(fi.ntmps - C.xs.length),fi.body,match cm with |true=>some ⟨C.g,C.xs,C.l0,C.N⟩ |false=>none⟩
section
variable {P:Program}(E:Rig P)
theorem end_alt{RT:RTab}{lg:List (Nat×List IV)}(hlg:nlG lg=true){C:Con}{fi:FI}(hfi:E.FF C.g=some fi){cm:Bool}{e:IOut×St×Know}{f:Fit}{F G:Far}(hag:F.Agree C.c G)(hK:@Know.Holds G P (C.X RT lg fi cm) e.2.2)
 (hS:∀ Y:Nat->Prop,LeafR (C.X RT lg fi cm) P (G.at Y) fi.body C.s0 e.1 e.2.1) (h:∀ F:Far,@endOk F P (E.T F) lg C cm fi.results e f=true):∃ a∈C.alts,∃G:Far,F.Agree C.c G∧AltOk P RT lg G C a:=by
 have h0:=h G
 unfold endOk at h0
 split at h0
 ·rename_i a ha
  simp only[Bool.and_eq_true]at h0
  obtain⟨e1,e2,e3,e4,e5,e6,e7,e8,e9,e10,e11,e12⟩:=h0
  obtain⟨a1,a2⟩:=all2_ok e9
  obtain⟨b1,b2⟩:=all2_ok e10
  have c1:=Nat.eq_of_beq_eq_true e11
  let σ:=f.nm C e.2.2
  have su1:σ.su.length=C.u.length+a.u.length:=by show ((List.range C.u.length).map IV.un++f.su).length=_;simp[a1]
  have sf1:σ.sf.length=C.f.length+a.f.length:=by show (List.range C.f.length++f.sf).length=_;simp[b1]
  have sm1:σ.sm.length=C.m+a.m:=by show (List.range C.m++f.sm).length=_;simp[c1]
  have U1:∀ k (hk:k<C.u.length) (h:k<σ.su.length),σ.su[k]=.un k:=fun k hk h=>Option.some.inj ((List.getElem?_eq_getElem h).symm.trans (by show ((List.range C.u.length).map IV.un++f.su)[k]? =_;rw[List.getElem?_append_left (by simpa using hk)];simp[hk]))
  have U2:∀ k (hk:k<f.su.length) (h:C.u.length+k<σ.su.length),σ.su[C.u.length+k]=f.su[k]:=fun k hk h=>Option.some.inj ((List.getElem?_eq_getElem h).symm.trans (by show ((List.range C.u.length).map IV.un++f.su)[C.u.length+k]? =_;rw[List.getElem?_append_right (by simp)];simp[hk]))
  have F1:∀ k (hk:k<C.f.length) (h:k<σ.sf.length),σ.sf[k]=k:=fun k hk h=>Option.some.inj ((List.getElem?_eq_getElem h).symm.trans (by show (List.range C.f.length++f.sf)[k]? =_;rw[List.getElem?_append_left (by simpa using hk)];simp[hk]))
  have F2:∀ k (hk:k<f.sf.length) (h:C.f.length+k<σ.sf.length),σ.sf[C.f.length+k]=f.sf[k]:=fun k hk h=>Option.some.inj ((List.getElem?_eq_getElem h).symm.trans (by show (List.range C.f.length++f.sf)[C.f.length+k]? =_;rw[List.getElem?_append_right (by simp)];simp[hk]))
  have M1:∀ k (hk:k<C.m) (h:k<σ.sm.length),σ.sm[k]=k:=fun k hk h=>Option.some.inj ((List.getElem?_eq_getElem h).symm.trans (by show (List.range C.m++f.sm)[k]? =_;rw[List.getElem?_append_left (by simpa using hk)];simp[hk]))
  have val:∀ k (hk:k<σ.su.length),∃v,@bas G σ.su[k]=.sc v∧scalar v=true:=by
   intro k hk
   by_cases hlt:k<C.u.length
   ·rw[U1 k hlt hk];exact⟨G.U k,rfl,G.hU k⟩
   ·have hq:k - C.u.length<f.su.length:=by omega
    obtain⟨i,rfl⟩:∃ i,k=C.u.length+i:=⟨k - C.u.length,by omega⟩
    have hi:i<f.su.length:=by omega
    have:=U2 i hi hk
    have hat:=List.all_eq_true.1 e4 _ (List.getElem_mem hk)
    have ht:=@atomTy_ok P (C.X RT lg fi cm) G _ hK _ _ (a2 i hi (by omega))
    have hty:=a2 i hi (by omega)
    rw[this]at hat ⊢
    generalize f.su[i]=x at hat ht hty
    cases x<;>first |exact⟨_,rfl,G.hU _⟩ |skip
    case sc v=>
     refine⟨v,rfl,?_⟩
     generalize a.u[i]'(by omega)=ty at ht hty
     have ht':TyV RT ty (.sc v):=ht
     cases ht'<;>first |rfl |(cases hty)
    all_goals cases hat
  let G':Far:=
   {G with
    U:=fun k=>match σ.su[k]? with |some a=>(match @bas G a with | .sc v=>if scalar v=true then v else G.U k |_=>G.U k) |none=>G.U k
    R:=fun s=>match σ.sf[s]? with |some q=>G.R q |none=>G.R s
    M:=fun m=>match σ.sm[m]? with |some q=>G.M q |none=>G.M m
    hU:=fun k=>by
     split
     ·split
      ·split
       ·assumption
       ·exact G.hU k
      ·exact G.hU k
     ·exact G.hU k
    hR:=fun s=>by
     split
     ·exact G.hR _
     ·exact G.hR s}
  have gU:∀ k (hk:k<σ.su.length),IV.sc (G'.U k)=@bas G σ.su[k]:=by
   intro k hk
   obtain⟨v,hv,hs⟩:=val k hk
   show IV.sc (match σ.su[k]? with |some a=>(match @bas G a with | .sc v=>if scalar v=true then v else G.U k |_=>G.U k) |none=>G.U k)=_
   rw[List.getElem?_eq_getElem hk]
   simp only[hv,hs,if_true]
  have gR:∀ s (hs:s<σ.sf.length),G'.R s=G.R σ.sf[s]:=by
   intro s hs
   show (match σ.sf[s]? with |some q=>G.R q |none=>G.R s)=_
   rw[List.getElem?_eq_getElem hs]
  have gM:∀ m (hm:m<σ.sm.length),G'.M m=G.M σ.sm[m]:=by
   intro s hs
   show (match σ.sm[s]? with |some q=>G.M q |none=>G.M s)=_
   rw[List.getElem?_eq_getElem hs]
  have hN:∀ Y:Nat->Prop,NMOk σ (C.ac a) (G'.at Y) (G.at Y):=by
   intro Y
   refine⟨rfl,fun k hk=> ?_,fun s hs=> ?_,fun m hm=> ?_⟩
   ·have hk':k<σ.su.length:=by rw[su1];exact hk
    rw[bas_at,bas_at]
    have:σ.U k=σ.su[k]:=by unfold NM.U;simp only[List.getElem?_eq_getElem hk']
    rw[this];exact gU k hk'
   ·have hk':s<σ.sf.length:=by rw[sf1];exact hs
    have:σ.F s=σ.sf[s]:=by unfold NM.F;simp only[List.getElem?_eq_getElem hk']
    rw[this];exact gR s hk'
   ·have hk':m<σ.sm.length:=by rw[sm1];exact hm
    have:σ.M m=σ.sm[m]:=by unfold NM.M;simp only[List.getElem?_eq_getElem hk']
    rw[this];exact gM m hk'
  refine⟨a,List.mem_of_getElem? ha,G',hag.trans ⟨fun k hk=> ?_,fun s hs=> ?_,fun m hm=> ?_⟩,?_⟩
  ·have hk0:k<C.u.length:=hk
   have hk':k<σ.su.length:=by omega
   have:=gU k hk'
   rw[U1 k hk0 hk']at this
   injection this with this;exact this.symm
  ·have hk0:s<C.f.length:=hs
   rw[gR s (by omega),F1 s hk0 (by omega)]
  ·have hk0:m<C.m:=hm
   rw[gM m (by omega),M1 m hk0 (by omega)]
  refine⟨?_,?_,?_,?_⟩
  ·intro q hq
   obtain⟨i,hi,rfl⟩:=numb_mem hq
   have hk':C.u.length+i<σ.su.length:=by omega
   simp only
   rw[gU _ hk']
   have:=U2 i (by omega) hk'
   rw[this]
   exact @atomTy_ok P (C.X RT lg fi cm) G _ hK _ _ (a2 i (by omega) hi)
  ·intro q hq
   obtain⟨i,hi,rfl⟩:=numb_mem hq
   have hk':C.f.length+i<σ.sf.length:=by omega
   simp only
   rw[gR _ hk']
   have:=F2 i (by omega) hk'
   rw[this]
   have hb:=b2 i (by omega) hi
   split at hb
   ·rename_i n' hn
    have:=@Know.Holds.f G P _ _ hK _ (find_mem hn)
    rw[Nat.eq_of_beq_eq_true hb]at this;exact this
   ·cases hb
  ·intro r hr
   have:=List.all_eq_true.1 e12 r hr
   rw[Bool.and_eq_true]at this
   exact(rel_ns e4 (hN _) this.1).2 (@relOk_ok G P _ _ hK _ this.2)
  ·refine @ctForm_ok G' P lg _ e5 fun F1 hl=> ?_
   have e6':=e6
   unfold Ct.nlN at e6'
   simp only[Bool.and_eq_true]at e6'
   obtain⟨t1,t2,t3,t4⟩:=e6'
   have hN1:NMOk σ (C.ac a) F1 (G.at F1.X):=by
    have:=hN F1.X
    refine⟨rfl,fun k hk=> ?_,fun s hs=> ?_,fun m hm=> ?_⟩
    ·rw[<-this.U k hk];show IV.sc (F1.U k)=IV.sc (G'.U k);rw[hl.U]
    ·rw[<-this.R s hs];show F1.R s=G'.R s;rw[hl.R]
    ·rw[<-this.M m hm];show F1.M m=G'.M m;rw[hl.M]
   have h1:=h (G.at F1.X)
   unfold endOk at h1
   rw[ha]at h1
   simp only[Bool.and_eq_true]at h1
   have h1:=h1.1
   split at h1
   ·rename_i r hr
    have hreq:=resEq_ok h1
    have x7:=iveqs_ok e7
    have x8:=@hlEq_ok G _ _ e8
    obtain⟨q1,q2,q3⟩:@CallR (G.at F1.X) P C.g C.xs ⟨hOf C.l0 .leaf,C.N,gOf lg⟩ r ⟨hOf (a.l1.map fun q=>(q.1,nsO σ q.2)) .leaf,a.n1,gOf lg⟩:=by
     have hS1:=hS F1.X
     cases cm with
     |false=>exact @callR_fn (G.at F1.X) P (E.T (G.at F1.X)) E.FF E.hF C.g fi hfi lg C.xs C.l0 _ C.N a.n1 e.1 e.2.1 r hS1 hr e2 (Nat.le_of_ble_eq_true e3)
     |true=>
      obtain⟨r0,hr0,k1,k2,k3⟩:=hS1
      have hr:encR e.1 e.2.1=some r:=hr
      rw[hr]at hr0
      injection hr0 with hr0
      subst hr0
      refine⟨k1,Nat.le_trans k2 (Nat.le_of_ble_eq_true e3),fun j w vs hs hv=>(k3 j w vs hs hv).mono ?_⟩
      rintro ee w' ⟨j',p1,p2,p3,p4⟩
      refine⟨j',?_,p2,p3,p4⟩
      refine @sim_less (G.at F1.X) _ _ _ _ p1 ?_ (Nat.le_of_ble_eq_true e3) rfl
      intro b o' hb
      have:=List.all_eq_true.1 e2 _ (hOf_mem hb)
      split at this
      ·rename_i q hq
       have h2:(hOf e.2.1.heap .leaf).get b=some q:=hq
       show (hOf e.2.1.heap .leaf).get b=some o'
       rw[h2,oeq2_ok this]
      ·cases this
    refine⟨q1,q2,fun j w vs hs hv=> ?_⟩
    have hs':=(sim_ns hN1 hlg t2).1 hs
    have hs':@Sim (G.at F1.X) j ⟨hOf C.l0 .leaf,C.N,gOf lg⟩ w:=by
     have e:(C.ct a).l0.map (fun e=>(e.1,nsO σ e.2))=C.l0:=x8
     rw[e]at hs';exact hs'
    have hv':@VRs (G.at F1.X) j w (C.xs.map (nsV σ 20)) vs:=by
     refine⟨hv.1.trans (by simp[Con.ct]),fun k hk=> ?_⟩
     have hk0:k<C.xs.length:=by simpa using hk
     exact vr_map' hk0 ((ns_ok hN1 20 _ (List.all_eq_true.1 t1 _ (List.getElem_mem hk0))).1 (hv.2 k hk0))
    rw[show C.xs.map (nsV σ 20)=C.xs from x7]at hv'
    refine(q3 j w vs hs' hv').mono ?_
    rintro ee w' ⟨j',p1,p2,p3,p4⟩
    refine⟨j',(sim_ns hN1 hlg t3).2 p1,p2,p3,?_⟩
    rw[hreq]at p4
    show @EndR F1 j' w' a.r ee
    have t4':nlNR (C.ac a) a.r=true:=t4
    unfold nlNR at t4'
    split at t4'
    ·rename_i x hr
     rw[hr]at p4 ⊢
     cases ee with
     |returned v=>exact(ns_ok hN1 20 _ t4').2 p4
     |panicked ch=>exact p4.elim
     |outgrown=>exact p4.elim
    ·rename_i x hr
     rw[hr]at p4 ⊢
     cases ee with
     |returned v=>exact p4.elim
     |panicked ch=>
      obtain⟨v,hv,hx⟩:=p4
      exact⟨v,hv,(ns_ok hN1 20 _ t4').2 hx⟩
     |outgrown=>exact p4.elim
   ·cases h1
 ·cases h0
theorem con_ok{RT:RTab}{lg:List (Nat×List IV)}{cs:List Con}{ru:List Rule}{C:Con}{fi:FI}{cm:Bool}(hfi:E.FF C.g=some fi)(hcs:∀ C∈cs,ConOk P RT lg C)(hru:∀ R∈ru,RuleOk RT R)(hlg:nlG lg=true)(hlg2:lg.all (fun e=>e.2.all (tree 30))=true)(hwf:C.K0.wf=true){t:Tree}
 (hok:t.Ok E (C.X RT lg fi cm) cs ru [⟨[],fi.body,C.s0,C.c,none⟩] C.K0) {fits:List Fit} (hends:∀ F:Far,all2 (@endOk F P (E.T F) lg C cm fi.results) (t.ends (P:=P) (C.X RT lg fi cm) cs ru [⟨[],fi.body,C.s0,C.c,none⟩] C.K0) fits=true):ConOk P RT lg C:=by
 intro F hu hf hp
 have hK:@Know.Holds F P (C.X RT lg fi cm) C.K0:=@Know.Holds.mk F P (C.X RT lg fi cm) C.K0 (fun Y f hf=>by cases hf) hu hf hp (fun t ht=>by cases ht) (fun e he=>by cases he)
 obtain⟨e,he,G,g1,g2,g3⟩:=ways_ok E (C.X RT lg fi cm) cs ru hcs hru hlg hlg2 (s0:=C.s0) (K:=C.K0) (t:=t) hok hwf hK
 obtain⟨k,hk,hek⟩:=List.getElem_of_mem he
 have hlen:=(all2_ok (hends F)).1
 refine end_alt E hlg hfi (cm:=cm) (f:=fits[k]'(by rw[<-hlen];exact hk)) g1 g2 g3 fun F1=> ?_
 have:=(all2_ok (hends F1)).2 k hk (by rw[<-hlen];exact hk)
 rw[<-hek];exact this
theorem someD{α:Type} [Inhabited α] {o:Option α}(h:o.isSome=true):o=some (o.getD default):=by cases o with |none=>cases h |some x=>rfl
end
end Go.Eng
namespace Go.Eng.Cons
open Go.RowKit Go.Eng
def isP:List IV->Bool
 | [_,_,.sc (.int .i64 k)]=>decide (k=2)
 |_=>false
def cntP(l:List (List IV)):Nat:=(l.filter isP).length
def kind4(r:List IV):Prop:=∃ a b k,r=[a,b,.sc (.int .i64 k)]∧1<=k∧k<=4
def keysOk(l:List (List IV)):Prop:=(∀r∈l,kind4 r)∧cntP l<=1
def fnv(g:Nat)(cap:List IV):IV:=.fn (.func g) [] cap
def i64(n:Int):IV:=.sc (.int .i64 n)
def u64(n:Int):IV:=.sc (.int .u64 n)
def shp(k:Nat)(a w h l:IV):List IV:=
 match k with
 |1=>[a,w,fnv 107 [.fp [fnv 105 [.fp [h,l] 0]] 0],fnv 108 [],fnv 106 [],fnv 106 []]
 |2=>[a,w,fnv 109 [.fp [w] 0,.fp [u64 0,u64 0] 0],fnv 111 [.fp [w] 0],fnv 112 [.fp [w] 0],fnv 113 [.fp [w] 0]]
 |3=>[a,w,fnv 114 [.fp [fnv 105 [.fp [h,l] 0]] 0],fnv 115 [],fnv 116 [],fnv 117 []]
 |_=>[a,w,fnv 118 [.fp [fnv 105 [.fp [h,l] 0]] 0],fnv 120 [],fnv 121 [],fnv 122 []]
def kk:List IV->Option Int
 | [_,_,.sc (.int .i64 k)]=>some k
 |_=>none
def partOf(pr kr:List IV):Prop:=∃ (k:Nat)(w h l:Int),1<=k∧k<=4∧0<=w∧w<=128∧kk kr=some k∧pr=shp k (i64 k) (i64 w) (u64 h) (u64 l)
def upTo(P K:List (List IV)):Prop:=P.length<=K.length∧∀ (q:Nat)(pr kr:List IV),P[q]? =some pr->K[q]? =some kr->partOf pr kr
def partsOf(P K:List (List IV)):Prop:=P.length=K.length∧upTo P K
def isPart(pr:List IV):Prop:=∃ kr,partOf pr kr
def anyOf(c:Int)(K:List (List IV)):Prop:=∃ kr∈K,kk kr=some c
def whoRow(pr mr:List IV):Prop:=
 (pr[0]? =some (i64 1)->∃ a b,mr=[a,b,u64 0,u64 0,i64 0])∧(pr[0]? =some (i64 2)->∃ n w:Int,pr[1]? =some (i64 w)∧mr[4]? =some (i64 n)∧0<=n∧n<=w)
def hitRow(pr mr kr:List IV):Prop:=pr[0]? =some (i64 1)->∃ a b,kr=[a,b]∧mr[0]? =some a∧mr[1]? =some b
def whoTo(n:Nat)(P M:List (List IV)):Prop:=∀ (q:Nat)(pr mr:List IV),q<n->P[q]? =some pr->M[q]? =some mr->whoRow pr mr
def hitTo(n:Nat)(P M Y:List (List IV)):Prop:=∀ (q:Nat)(pr mr kr:List IV),q<n->P[q]? =some pr->M[q]? =some mr->Y[q]? =some kr->hitRow pr mr kr
def cmpI(a b:Int):Int:=if a<b then -1 else if b<a then 1 else 0
def orI(a b:Int):Int:=if a=0 then b else a
def iv:IV->Int
 | .sc (.int _ n)=>n
 |_=>0
def cmpB(a b c d:IV):Int:=orI (cmpI (iv a) (iv c)) (cmpI (iv b) (iv d))
def cmpM(x y:List IV):Int:=orI (cmpI (iv (y.getD 4 .junk)) (iv (x.getD 4 .junk))) (orI (cmpB (x.getD 0 .junk) (x.getD 1 .junk) (y.getD 0 .junk) (y.getD 1 .junk)) (cmpB (x.getD 2 .junk) (x.getD 3 .junk) (y.getD 2 .junk) (y.getD 3 .junk)))
def cmpL:List (List IV)->List (List IV)->Int
 | [],[]=>0
 | [],_::_=> -1
 |_::_,[]=>1
 |x::l,y::m=>orI (cmpM x y) (cmpL l m)
def ordE(pa pb:IV)(A B:List (List IV)):Int:=orI (cmpI (iv pb) (iv pa)) (cmpL A B)
abbrev FnT:=List IV->List (List (List IV))->List IV×List (List (List IV))
def keysAt(e:FnT)(S:List (List (List IV)))(a:IV)(K:List (List IV)):Prop:=∃ (k:Nat)(t:List (List IV))(row:List IV),e [a] S=([i64 0,i64 k],[])∧S[4]? =some t∧t[k]? =some row∧row[1]? =some (.fs K)
structure Fns where
 at_:FnT
 tab:FnT
 who:FnT
 key:FnT
 hit:FnT
def tabOf(e:Fns)(S:List (List (List IV)))(a:IV)(us:List IV)(fs:List (List (List IV))):Prop:=∃ (b:Bool)(n s x y l:IV),us=[n,s,x,y,.sc (.bool b)]∧e.tab [a] S=([i64 (if b then 1 else 2),n,s,x,y,l],fs)
def hitP(e:Fns)(S:List (List (List IV)))(a:IV)(M:List (List IV))(p c:IV)(R Y:List (List IV)):Prop:=
 ∃(us:List IV) (K A G P:List (List IV)),tabOf e S a us [K,A,G,P]∧e.key us [K,A,G,P,Y]=([i64 1],[])∧e.who (us++[p,c]) [K,A,G,P,M,R]=([i64 1],[])∧e.hit (us++[p,c]) [K,A,G,P,M,R,Y]=([i64 1],[])∧
  keysAt e.at_ S a K∧keysOk K∧partsOf P K∧M.length=P.length∧Y.length=P.length∧whoTo P.length P M∧hitTo P.length P M Y∧(∃(n:Int) (r:Bool),p=i64 n∧(r=true->anyOf 3 K∨anyOf 4 K)∧(r=false->n=0))
def rowE(M:List (List IV))(p c:IV)(R:List (List IV)):List IV:=[.fs M,p,c,.fs R]
def bestTo(e:Fns)(S:List (List (List IV)))(a:IV)(L Y:List (List IV))(n:Nat)(b:Int):Prop:=
 (b= -1∧∀ q M p c R,q<n->L[q]? =some (rowE M p c R)->¬ hitP e S a M p c R Y)∨
 ∃(m:Nat) (M:List (List IV)) (p c:IV) (R:List (List IV)),b=m∧m<n∧L[m]? =some (rowE M p c R)∧hitP e S a M p c R Y∧
  ∀q M' p' c' R',q<n->L[q]? =some (rowE M' p' c' R')->hitP e S a M' p' c' R' Y->ordE p p' M M'<0∨(ordE p p' M M'=0∧m<=q)
end Go.Eng.Cons
namespace Go.Eng.Cons
open Go.RowKit Go.Eng
def strM:Nat:=1048672
def RTx(f:Nat->List Ty)(k:Nat):List Ty:=
 match Nat.ble 100 k with
 |false=>f k
 |true=>([[.int .u8],[.int .i64],[.boo],[.str strM],[.int .i64,.int .i64,.any,.any,.any,.any]]:List (List Ty)).getD (k - 100) []
def isF:List IV->Bool
 | [.sc (.bool false)]=>true
 |_=>false
def unmet(l:List (List IV)):Nat:=(l.filter isF).length
def keys4(r:List IV):Prop:=∃ l,r[1]? =some (.fs l)∧keysOk l
structure PN where
 n:Nat
 d:Nat->List IV->List (List (List IV))->List IV×List (List (List IV))
def arD:Nat->Nat×Nat
 |50=>(1,6)
 |51=>(1,6)
 |52=>(7,6)
 |53=>(5,5)
 |54=>(7,7)
 |_=>(0,0)
def cr01(n:Nat):Nat->List IV->List (List (List IV))->List (List (Value×Value×Nat)×Nat)->Prop
 |0,_,[r],[]=>SizeOf.sizeOf r<=n
 |1,_,[r],[]=>SizeOf.sizeOf r<n
 |_,_,_,_=>True
def crl:Nat->List IV->List (List (List IV))->List (List (Value×Value×Nat)×Nat)->Prop
 |2,_,[s],[]=>s.length<=32
 |3,_,[s],[m]=>∀ e∈m.1,∃n:Nat,e.2.1=.int .i64 n∧1<=n∧n<=s.length
 |5,[g,n,k],[met],[]=>∃ gn nn kn:Nat,g=.sc (.int .i64 gn)∧n=.sc (.int .i64 nn)∧k=.sc (.int .i64 kn)∧2 *unmet met+kn+gn<=nn∧nn<=65
 |6,[g,n,k],[met],[]=>∃ gn nn kn:Nat,g=.sc (.int .i64 gn)∧n=.sc (.int .i64 nn)∧k=.sc (.int .i64 kn)∧2 *unmet met+kn+1+gn<=nn∧nn<=65
 |7,_,[o,s],[]=>∀ row∈o,∃n:Nat,row=[.sc (.int .i64 n)]∧n<s.length
 |8,[k],[o],[]=>∃ kn:Nat,k=.sc (.int .i64 kn)∧kn<=o.length
 |9,_,[s],[]=>∀ row∈s,∀rows,row[4]? =some (.fs rows)->rows.length<=32
 |10,[i],[s],[]=>∃ n:Nat,i=.sc (.int .i64 n)∧∀ (q:Nat)(row:List IV),q<n->s[q]? =some row->∀ rows,row[4]? =some (.fs rows)->rows.length<=32
 |11,[i,c],[l],[]=>∃ n m:Nat,i=.sc (.int .i64 n)∧c=.sc (.int .i64 m)∧(∀r∈l.take n,kind4 r)∧cntP (l.take n)=m∧m<=1
 |12,_,[l],[]=>keysOk l
 |13,[i],[l],[]=>∃ n:Nat,i=.sc (.int .i64 n)∧∀ r∈l.take n,keys4 r
 |14,_,[l],[]=>∀ r∈l,keys4 r
 |15,[a,b],_,[]=>∃ n:Int,a=.sc (.int .i64 n)∧b=.sc (.int .i64 n)
 |22,_,[l],[]=>∀ r∈l,∃n:Int,r=[.sc (.int .i64 n)]∧0<=n∧n<=128
 |_,_,_,_=>True
def crm(d:Nat->List IV->List (List (List IV))->List IV×List (List (List IV))):Nat->List IV->List (List (List IV))->List (List (Value×Value×Nat)×Nat)->Prop
 |30,[a,z],fs,[]=>∃ (k:Nat)(t:List (List IV))(row:List IV)(l:List (List IV)),d 50 [a] fs=([.sc (.int .i64 0),.sc (.int .i64 k)],[])∧fs[4]? =some t∧t[k]? =some row∧row[1]? =some (.fs l)∧z=.sc (.int .i64 l.length)
 |31,[a],fs,[]=>∃ k:Int,d 50 [a] fs=([.sc (.int .i64 0),.sc (.int .i64 k)],[])∧k<0
 |32,[a],fs,[]=>∃ (k:Nat)(t:List (List IV))(row:List IV)(l:List (List IV)),d 50 [a] (fs.take 6)=([.sc (.int .i64 0),.sc (.int .i64 k)],[])∧fs[4]? =some t∧t[k]? =some row∧row[1]? =some (.fs l)∧fs[6]? =some l
 |_,_,_,_=>True
def crh(k:Nat)(us:List IV)(fs:List (List (List IV))):Prop:=
 match k with
 |116=>(match fs with | [P,K]=>upTo P K |_=>True)
 |117=>(match fs with | [P,K]=>partsOf P K |_=>True)
 |118=>(match fs with | [P]=>∀ pr∈P,isPart pr |_=>True)
 |119=>(match us,fs with | [c,i],[K]=>∃ (m:Int)(n:Nat),c=i64 m∧i=i64 n∧∀ (q:Nat)(kr:List IV),q<n->K[q]? =some kr->kk kr≠some m |_,_=>True)
 |120=>(match us,fs with | [c,z],[K]=>∃ m n:Int,c=i64 m∧z=i64 n∧(n<0->¬ anyOf m K)∧(0<=n->anyOf m K) |_,_=>True)
 |121=>(match us,fs with | [z],[K]=>∃ n:Int,z=i64 n∧(n=3↔anyOf 3 K∨anyOf 4 K) |_,_=>True)
 |123=>(match us,fs with | [i],[P,M]=>∃ n:Nat,i=i64 n∧whoTo n P M |_,_=>True)
 |124=>(match fs with | [P,M]=>M.length=P.length∧whoTo P.length P M |_=>True)
 |125=>(match us,fs with | [i],[P,M,Y]=>∃ n:Nat,i=i64 n∧hitTo n P M Y |_,_=>True)
 |126=>(match fs with | [P,M,Y]=>hitTo P.length P M Y |_=>True)
 |127=>(match fs with | [P,Y]=>Y.length=P.length |_=>True)
 |128=>(match us with | [p,b]=>∃ (n:Int)(r:Bool),p=i64 n∧b=.sc (.bool r)∧(r=false->n=0) |_=>True)
 |129=>(match us,fs with | [b],[K]=>b=.sc (.bool true)->anyOf 3 K∨anyOf 4 K |_,_=>True)
 |130=>(match us with | [_,_,c,d,e]=>c=u64 0∧d=u64 0∧e=i64 0 |_=>True)
 |131=>(match us with | [e,w]=>∃ n m:Int,e=i64 n∧w=i64 m∧0<=n∧n<=m |_=>True)
 |132=>(match us with | [a,b,c,d]=>a=c∧b=d |_=>True)
 |140=>(match us with | [z,a,b]=>z=i64 (cmpI (iv a) (iv b)) |_=>True)
 |142=>(match us with | [z,a,b,c,d]=>z=i64 (cmpB a b c d) |_=>True)
 |143=>(match us with |z::l=>z=i64 (cmpM (l.take 5) (l.drop 5)) |_=>True)
 |144=>(match us,fs with | [i],[A,B]=>∃ n:Nat,i=i64 n∧n<=A.length∧n<=B.length∧cmpL A B=cmpL (A.drop n) (B.drop n) |_,_=>True)
 |145=>(match us,fs with | [z],[A,B]=>z=i64 (cmpL A B) |_,_=>True)
 |146=>(match us,fs with | [z,a,b],[A,B]=>z=i64 (ordE a b A B) |_,_=>True)
 |147=>(match us,fs with | [i],[P]=>∃ n:Nat,i=i64 n∧∃ (k:Nat)(w h l:Int),k<=2∧1<=k∧0<=w∧w<=128∧P[n]? =some (shp k (i64 k) (i64 w) (u64 h) (u64 l)) |_,_=>True)
 |148=>(match us,fs with | [i],[P]=>∃ n:Nat,i=i64 n∧∃ (k:Nat)(w h l:Int),3<=k∧k<=4∧0<=w∧w<=128∧P[n]? =some (shp k (i64 k) (i64 w) (u64 h) (u64 l)) |_,_=>True)
 |_=>True
def crf(e:Fns)(k:Nat)(us:List IV)(fs:List (List (List IV))):Prop:=
 match k with
 |234=>(match us,fs with | [a,p,c],[f0,f1,f2,f3,f4,f5,M,R,Y]=>hitP e [f0,f1,f2,f3,f4,f5] a M p c R Y |_,_=>True)
 |235=>(match us,fs with | [a,p,c],[f0,f1,f2,f3,f4,f5,M,R,Y]=>¬ hitP e [f0,f1,f2,f3,f4,f5] a M p c R Y |_,_=>True)
 |236=>(match us,fs with | [i,b,a],[f0,f1,f2,f3,f4,f5,L,Y]=>∃ (n:Nat)(m:Int),i=i64 n∧b=i64 m∧bestTo e [f0,f1,f2,f3,f4,f5] a L Y n m |_,_=>True)
 |237=>(match us,fs with | [b,a],[f0,f1,f2,f3,f4,f5,L,Y]=>∃ m:Int,b=i64 m∧bestTo e [f0,f1,f2,f3,f4,f5] a L Y L.length m |_,_=>True)
 |_=>True
def fnsOf(d:Nat->FnT):Fns:=⟨d 50,d 51,d 52,d 53,d 54⟩
def crd(d:Nat->FnT)(k:Nat)(us:List IV)(fs:List (List (List IV))):Prop:=crf (fnsOf d) k us fs
def crt(d:Nat->List IV->List (List (List IV))->List IV×List (List (List IV)))(k:Nat)(us:List IV)(fs:List (List (List IV))):Prop:=
 match Nat.ble 100 k with
 |false=>d k (us.take (arD k).1) (fs.take (arD k).2)=(us.drop (arD k).1,fs.drop (arD k).2)
 |true=>(match Nat.ble 200 k with
  |false=>crh k us fs
  |true=>crd d k us fs)
def crs(N:PN)(k:Nat)(us:List IV)(fs:List (List (List IV)))(ms:List (List (Value×Value×Nat)×Nat)):Prop:=
 match Nat.ble 50 k with
 |true=>(match ms with | []=>(match Nat.ble 1000 k with |true=>True |false=>crt N.d k us fs) |_=>True)
 |false=>(match Nat.ble 30 k with |true=>crm N.d k us fs ms |false=>(match Nat.ble 2 k with |true=>crl k us fs ms |false=>cr01 N.n k us fs ms))
theorem crl_e(k:Nat)(us:List IV)(fs:List (List (List IV)))(c:Nat):crl k us fs [([],c)]:=by
 unfold crl
 split<;>first
  |trivial
  |(rename_i h;cases h;done)
  |skip
 rename_i heq
 injection heq with heq
 subst heq
 intro e he;cases he
theorem crs_e(N:PN)(k:Nat)(us:List IV)(fs:List (List (List IV)))(c:Nat)(_:crs N (1000+k) us fs []):crs N k us fs [([],c)]:=by
 unfold crs
 split
 ·trivial
 ·split
  ·unfold crm
   split<;>first
    |trivial
    |(rename_i h;cases h;done)
  ·split
   ·exact crl_e k us fs c
   ·unfold cr01
    split<;>first
     |trivial
     |(rename_i h;cases h;done)
def lowC(b k:Nat):Bool:=
 Nat.ble 2 k&&(match Nat.ble 50 k with
 |true=> !Nat.ble 1000 k&&(match Nat.ble 100 k with |true=>(match Nat.ble 200 k with |true=>Nat.ble 55 b |false=>true) |false=>Nat.blt k b)
 |false=>(match Nat.ble 30 k with |true=>Nat.ble 51 b |false=>true))
def PN.like(b:Nat)(N N':PN):Prop:=∀ q,50<=q->q<b->N.d q=N'.d q
theorem PN.like.symm{b:Nat}{N N':PN}(h:N.like b N'):N'.like b N:=fun q h1 h2=>(h q h1 h2).symm
theorem crm_like{d d':Nat->List IV->List (List (List IV))->List IV×List (List (List IV))}(hd:d 50=d' 50){k:Nat}{us:List IV}{fs:List (List (List IV))}{ms:List (List (Value×Value×Nat)×Nat)}(h:crm d k us fs ms):crm d' k us fs ms:=by
 unfold crm at h ⊢
 simp only[hd]at h
 exact h
theorem crd_like{d d':Nat->List IV->List (List (List IV))->List IV×List (List (List IV))}(hd:∀ q,50<=q->q<55->d q=d' q){k:Nat}{us:List IV}{fs:List (List (List IV))}(h:crd d k us fs):crd d' k us fs:=by
 have e:fnsOf d=fnsOf d':=by
  unfold fnsOf
  rw[hd 50 (by omega) (by omega),hd 51 (by omega) (by omega),hd 52 (by omega) (by omega),hd 53 (by omega) (by omega),hd 54 (by omega) (by omega)]
 unfold crd at h ⊢
 rw[<-e];exact h
theorem crs_low{N N':PN}{b k:Nat}(hN:N.like b N')(hk:lowC b k=true){us:List IV}{fs:List (List (List IV))}{ms:List (List (Value×Value×Nat)×Nat)}(h:crs N k us fs ms):crs N' k us fs ms:=by
 unfold crs at h ⊢
 simp only[lowC,Bool.and_eq_true]at hk
 obtain⟨h2,hk⟩:=hk
 cases h50:Nat.ble 50 k<;>simp only[h50]at h hk ⊢
 ·cases h30:Nat.ble 30 k<;>simp only[h30]at h hk ⊢
  ·rw[h2]at h ⊢;exact h
  ·exact crm_like (hN 50 (Nat.le_refl _) (by have:=Nat.le_of_ble_eq_true hk;omega)) h
 ·simp only[Bool.and_eq_true,Bool.not_eq_true']at hk
  rw[hk.1]at h ⊢
  cases ms with
  |cons=>trivial
  |nil=>
   simp only at h ⊢
   unfold crt at h ⊢
   cases h100:Nat.ble 100 k<;>simp only[h100]at h hk ⊢
   ·have e:=hN k (Nat.le_of_ble_eq_true h50) (by simpa[Nat.blt_eq]using hk.2)
    rw[<-e];exact h
   ·cases h200:Nat.ble 200 k<;>simp only[h200]at h hk ⊢
    ·exact h
    ·exact crd_like (fun q q1 q2=>hN q q1 (by have:=Nat.le_of_ble_eq_true hk.2;omega)) h
def RTN(f:Nat->List Ty)(N:PN):RTab:=⟨RTx f,crs N,crs_e N⟩
def rByt:Rule:=⟨[.str strM],[],0,[],[⟨[],[100],0,[.sr (.byt (.un 0) 0)]⟩]⟩
variable {f:Nat->List Ty}
theorem numb1{α:Type}{n:Nat}{x:α}{e:Nat×α}(h:e∈numb n [x]):e=(n,x):=by simpa[numb]using h
theorem rByt_ok{N:PN}:RuleOk (RTN f N) rByt:=by
 intro F hu hf hp
 have h0:=hu (0,.str strM) (by simp[rByt,numb])
 have key:∃ s:ByteArray,F.U 0=.string s∧s.size<=strM:=by
  generalize F.U 0=v at h0
  cases h0 with |str h=>exact⟨_,rfl,h⟩
 obtain⟨s,hs,hle⟩:=key
 have hlen:s.data.toList.length=s.size:=by simp
 let rows:List (List IV):=s.data.toList.map fun b=>[.sc (.int .u8 b.toNat)]
 have hb:∀ r∈rows,∀x∈r,Bz x:=fun r hr x hx=>by
  obtain⟨b,_,rfl⟩:=List.mem_map.1 hr
  have:x=.sc (.int .u8 b.toNat):=by simpa using hx
  subst this;exact .sc
 refine⟨_,by simp[rByt];rfl,F.putR 0 rows hb,F.putR_agree hb (Nat.le_refl _),?_,?_,?_⟩
 ·intro e he;simp[numb]at he
 ·intro e he
  have he:=numb1 he
  subst he
  show TyV _ _ (.fs ((F.putR 0 rows hb).R 0))
  rw[F.putR_same hb]
  refine .rows (by simp only[rows,List.length_map,hlen];unfold maxL;unfold strM at hle;omega) (fun r hr=> ?_) fun r hr k h h'=> ?_
  ·obtain⟨b,_,rfl⟩:=List.mem_map.1 hr;rfl
  ·obtain⟨b,_,rfl⟩:=List.mem_map.1 hr
   have hk:k=0:=by simpa using h'
   subst hk
   exact .int
 ·intro r hr
  have hr:r=.sr (.byt (.un 0) 0):=by simpa using hr
  subst hr
  exact⟨s,by show IV.sc (F.U 0)=_;rw[hs],F.putR_same hb⟩
def rSub(tys:List Ty)(n:Nat):Rule:=
 let r:=cellNames tys ⟨1,1,0⟩
 ⟨.nat::r.2.1.map (·.2),n::r.2.2.1.map (·.2),0,[.cus 0 [] [0] [],.sr (.ll 0 (.un 0) r.1)],[⟨[],[],0,(r.2.2.1.filter fun e=>Nat.beq e.2 n).map fun e=>.cus 1 [] [e.1] []⟩]⟩
theorem cellNames_fu:∀ (tys:List Ty)(c:Cnt)(e:Nat×Nat),e∈(cellNames tys c).2.2.1->.fu e.1∈(cellNames tys c).1:=by
 intro tys
 induction tys with
 |nil=>intro c e h;simp[cellNames]at h
 |cons t l ih=>
  intro c e h
  cases t<;>simp only[cellNames,List.mem_cons]at h ⊢
  case rows n=>
   rcases h with rfl |h
   ·exact .inl rfl
   ·exact .inr (ih _ _ h)
  all_goals exact .inr (ih _ _ h)
theorem rSub_ok{N:PN}(tys:List Ty)(n:Nat):RuleOk (RTN f N) (rSub tys n):=by
 intro F hu hf hp
 refine⟨_,List.mem_singleton.2 rfl,F,Far.Agree.refl _ _,?_,?_,?_⟩
 ·intro e he;simp[numb]at he
 ·intro e he;simp[numb]at he
 ·intro r hr
  obtain⟨e,he,rfl⟩:=List.mem_map.1 hr
  have hm:=cellNames_fu tys ⟨1,1,0⟩ e (List.mem_filter.1 he).1
  have h0:SizeOf.sizeOf (F.R 0)<=N.n:=hp (.cus 0 [] [0] []) (by simp[rSub])
  obtain⟨i,_,hrow⟩:=hp (.sr (.ll 0 (.un 0) (cellNames tys ⟨1,1,0⟩).1)) (by simp[rSub])
  have h1:=List.sizeOf_lt_of_mem (List.mem_of_getElem? hrow)
  have h2:=List.sizeOf_lt_of_mem (List.mem_map.2 ⟨_,hm,rfl⟩:@rs F 20 (.fu e.1)∈_)
  have h3:SizeOf.sizeOf (@rs F 20 (.fu e.1))=1+SizeOf.sizeOf (F.R e.1):=by
   show SizeOf.sizeOf (IV.fs (F.R e.1))=_
   simp
  show SizeOf.sizeOf (F.R e.1)<N.n
  omega
def noCus:Rel->Bool
 | .cus _ _ _ _=>false
 |_=>true
theorem rel_cr{RT RT':RTab}{F:Far}{r:Rel}(h:noCus r=true):@Rel.Holds F RT r↔@Rel.Holds F RT' r:=by
 cases r<;>first |exact Iff.rfl |cases h
theorem tyV_cr{RT RT':RTab}(hf:RT.f=RT'.f){t:Ty}{x:IV}(h:TyV RT t x):TyV RT' t x:=by
 obtain⟨a,b,e⟩:=RT
 obtain⟨a',b',e'⟩:=RT'
 simp only at hf
 subst hf
 induction h with
 |int=>exact .int
 |nat h=>exact .nat h
 |str h=>exact .str h
 |boo=>exact .boo
 |any h=>exact .any h
 |rows h1 h2 h3 ih=>exact .rows h1 h2 ih
theorem tyV_crs{M M':PN}{t:Ty}{x:IV}(h:TyV (RTN f M) t x):TyV (RTN f M') t x:=tyV_cr (RT:=(RTN f M)) (RT':=(RTN f M')) rfl h
def _root_.Go.Eng.Con.withR(C:Con)(r:Rel):Con:={C with pre:=r::C.pre}
theorem rec_ok{P:Program}{lg:List (Nat×List IV)}{C:Con}{s:Nat}(hp:C.pre.all noCus=true)(ha:C.alts.all (fun a=>a.rels.all noCus)=true)
 {d:Nat->List IV->List (List (List IV))->List IV×List (List (List IV))} (h:∀ n:Nat,ConOk P (RTN f ⟨n,d⟩) lg (C.withR (.cus 1 [] [s] []))->ConOk P (RTN f ⟨n,d⟩) lg (C.withR (.cus 0 [] [s] []))) (n:Nat):ConOk P (RTN f ⟨n,d⟩) lg C:=by
 have conv:∀ {M M':PN} {F:Far},(∀e∈numb 0 C.u,TyV (RTN f M) e.2 (.sc (F.U e.1)))->(∀e∈numb 0 C.f,TyV (RTN f M) (.rows e.2) (.fs (F.R e.1)))->(∀r∈C.pre,@Rel.Holds F (RTN f M) r)->SizeOf.sizeOf (F.R s)<=M'.n->
  ConOk P (RTN f M') lg (C.withR (.cus 0 [] [s] []))->∃ a∈C.alts,∃G:Far,F.Agree C.c G∧AltOk P (RTN f M) lg G C a:=by
  intro M M' F hu hf hr hs hc
  obtain⟨a,q1,G,q2,q3⟩:=hc F (fun e he=>tyV_crs (hu e he)) (fun e he=>tyV_crs (hf e he)) (fun r hr'=>by
   rcases List.mem_cons.1 hr' with rfl |hr'
   ·exact hs
   ·exact(rel_cr (List.all_eq_true.1 hp r hr')).1 (hr r hr'))
  refine⟨a,q1,G,q2,⟨fun e he=>tyV_crs (q3.u e he),fun e he=>tyV_crs (q3.f e he),fun r hr'=> ?_,q3.ct⟩⟩
  exact(rel_cr (List.all_eq_true.1 (List.all_eq_true.1 ha a q1) r hr')).1 (q3.rels r hr')
 have all:∀ M:Nat,ConOk P (RTN f ⟨M,d⟩) lg (C.withR (.cus 0 [] [s] [])):=by
  intro M
  induction M with
  |zero=>
   refine h 0 fun F hu hf hr=> ?_
   have:SizeOf.sizeOf (F.R s)<0:=hr (.cus 1 [] [s] []) (by simp[Con.withR])
   omega
  |succ M ih=>
   refine h (M+1) fun F hu hf hr=> ?_
   have hlt:SizeOf.sizeOf (F.R s)<M+1:=hr (.cus 1 [] [s] []) (by simp[Con.withR])
   obtain⟨a,q1,G,q2,q3⟩:=conv (M':=⟨M,d⟩) hu hf (fun r hr'=>hr r (by simp[Con.withR,hr'])) (by show _<=M;omega) ih
   exact⟨a,q1,G,q2,⟨q3.u,q3.f,q3.rels,q3.ct⟩⟩
 intro F hu hf hr
 obtain⟨a,q1,G,q2,q3⟩:=conv (M':=⟨SizeOf.sizeOf (F.R s),d⟩) hu hf hr (Nat.le_refl _) (all _)
 exact⟨a,q1,G,q2,⟨q3.u,q3.f,q3.rels,q3.ct⟩⟩
theorem unmet_rep(n:Nat):unmet (List.replicate n [.sc (.bool false)])=n:=by
 unfold unmet
 rw[List.filter_replicate];simp[isF]
theorem unmet_set:∀ (l:List (List IV))(n:Nat),l[n]? =some [.sc (.bool false)]->unmet (l.set n [.sc (.bool true)])+1=unmet l:=by
 intro l
 induction l with
 |nil=>intro n h;simp at h
 |cons r l ih=>
  intro n h
  cases n with
  |zero=>
   simp only[List.getElem?_cons_zero,Option.some.injEq]at h
   subst h
   have a1:isF [.sc (.bool false)]=true:=rfl
   have a2:isF [.sc (.bool true)]=false:=rfl
   simp only[List.set_cons_zero,unmet,List.filter_cons,a1,a2,if_true,Bool.false_eq_true,if_false,List.length_cons]
  |succ n=>
   simp only[List.getElem?_cons_succ]at h
   have:=ih n h
   simp only[List.set_cons_succ,unmet,List.filter_cons]at this ⊢
   split
   ·simp only[List.length_cons];omega
   ·exact this
section
variable {RT:RTab}{F:Far}
theorem tNat{k:Nat}(h:TyV RT .nat (.sc (F.U k))):∃ n:Nat,F.U k=.int .i64 n∧n<=maxI:=by
 generalize F.U k=v at h
 cases h with |nat h=>exact⟨_,rfl,h⟩
theorem tInt{k:Nat}{kk:IntKind}(h:TyV RT (.int kk) (.sc (F.U k))):∃ n:Int,F.U k=.int kk n:=by
 generalize F.U k=v at h
 cases h;exact⟨_,rfl⟩
theorem tStr{k m:Nat}(h:TyV RT (.str m) (.sc (F.U k))):∃ s:ByteArray,F.U k=.string s∧s.size<=m:=by
 generalize F.U k=v at h
 cases h with |str h=>exact⟨_,rfl,h⟩
theorem iOf{k:Nat}{n m:Int}(h:@bas F (.un k)=.sc (.int .i64 n))(h2:F.U k=.int .i64 m):n=m:=by
 have:IV.sc (F.U k)=.sc (.int .i64 n):=h
 rw[h2]at this;injection this with this;injection this with _ this;exact this.symm
theorem nOf{k n m:Nat}(h:@bas F (.un k)=.sc (.int .i64 n))(h2:F.U k=.int .i64 m):n=m:=by
 have:=iOf h h2;omega
theorem bOf{k:Nat}{v:Value}(h:F.U k=v):@bas F (.un k)=.sc v:=by show IV.sc (F.U k)=_;rw[h]
theorem cGe{a:IV}{c:Int}{n:Int}(ha:@bas F a=.sc (.int .i64 n))(h:@Rel.Holds F RT (.cmp .geq a (.sc (.int .i64 c)) true)):c<=n:=by
 obtain⟨k,x,y,h1,h2,h3⟩:=h
 rw[ha]at h1;injection h1 with h1;injection h1 with _ h1
 simp only[bas]at h2;injection h2 with h2;injection h2 with _ h2
 simp only[iInt2,iltI_eq,Option.some.injEq,Value.bool.injEq,Bool.not_eq_true',decide_eq_false_iff_not]at h3
 omega
theorem cLe{a:IV}{c:Int}{n:Int}(ha:@bas F a=.sc (.int .i64 n))(h:@Rel.Holds F RT (.cmp .leq a (.sc (.int .i64 c)) true)):n<=c:=by
 obtain⟨k,x,y,h1,h2,h3⟩:=h
 rw[ha]at h1;injection h1 with h1;injection h1 with _ h1
 simp only[bas]at h2;injection h2 with h2;injection h2 with _ h2
 simp only[iInt2,iltI_eq,Option.some.injEq,Value.bool.injEq,Bool.not_eq_true',decide_eq_false_iff_not]at h3
 omega
theorem cLt{a b:IV}{n m:Int}(ha:@bas F a=.sc (.int .i64 n))(hb:@bas F b=.sc (.int .i64 m)){r:Bool}(h:@Rel.Holds F RT (.cmp .lss a b r)):decide (n<m)=r:=by
 obtain⟨k,x,y,h1,h2,h3⟩:=h
 rw[ha]at h1;injection h1 with h1;injection h1 with _ h1
 rw[hb]at h2;injection h2 with h2;injection h2 with _ h2
 simp only[iInt2,iltI_eq,Option.some.injEq,Value.bool.injEq]at h3
 rw[h1,h2];exact h3
theorem mkGe{a:IV}{c n:Int}(ha:@bas F a=.sc (.int .i64 n))(h:c<=n):@Rel.Holds F RT (.cmp .geq a (.sc (.int .i64 c)) true):=
 ⟨.i64,n,c,ha,rfl,by simp only[iInt2,iltI_eq,Option.some.injEq,Value.bool.injEq,Bool.not_eq_true',decide_eq_false_iff_not];omega⟩
theorem mkLe{a:IV}{c n:Int}(ha:@bas F a=.sc (.int .i64 n))(h:n<=c):@Rel.Holds F RT (.cmp .leq a (.sc (.int .i64 c)) true):=
 ⟨.i64,n,c,ha,rfl,by simp only[iInt2,iltI_eq,Option.some.injEq,Value.bool.injEq,Bool.not_eq_true',decide_eq_false_iff_not];omega⟩
theorem lenN{z:IV}{s n:Nat}(hz:@bas F z=.sc (.int .i64 n))(h:@Rel.Holds F RT (.len z s)):n=(F.R s).length:=by
 have h:@bas F z=.sc (goInt (F.R s).length):=h
 rw[hz]at h
 injection h with h
 have h:Value.int .i64 (n:Int)=goInt (F.R s).length:=h
 unfold goInt at h
 injection h with _ h;omega
theorem mkLen{z:IV}{s n:Nat}(hz:@bas F z=.sc (.int .i64 n))(h:n=(F.R s).length):@Rel.Holds F RT (.len z s):=by
 show @bas F z=.sc (goInt (F.R s).length)
 rw[hz,h];rfl
end
theorem plain_ok{RT:RTab}{R:Rule}{rels:List Rel}(hR:R.alts=[⟨[],[],0,rels⟩])(h:∀ F:Far,(∀e∈numb 0 R.u,TyV RT e.2 (.sc (F.U e.1)))->(∀e∈numb 0 R.f,TyV RT (.rows e.2) (.fs (F.R e.1)))->(∀r∈R.pre,@Rel.Holds F RT r)->∀ r∈rels,@Rel.Holds F RT r):RuleOk RT R:=by
 intro F hu hf hp
 refine⟨⟨[],[],0,rels⟩,by rw[hR];simp,F,Far.Agree.refl _ _,⟨fun e he=>by simp[numb]at he,fun e he=>by simp[numb]at he,h F hu hf hp⟩⟩
def zi(n:Int):IV:=.sc (.int .i64 n)
def t1:List IV:=[.sc (.bool true)]
def f1:List IV:=[.sc (.bool false)]
section
variable {N:PN}
def rLen32(nS:Nat):Rule:=⟨[.nat],[nS],0,[.len (.un 0) 0,.cmp .leq (.un 0) (zi 32) true],[⟨[],[],0,[.cus 2 [] [0] []]⟩]⟩
theorem rLen32_ok{nS:Nat}:RuleOk (RTN f N) (rLen32 nS):=plain_ok rfl fun F hu hf hp r hr=>by
 obtain rfl:=List.mem_singleton.1 hr
 obtain⟨n,h0,_⟩:=tNat (hu (0,.nat) (by simp[rLen32,numb]))
 have h1:=lenN (bOf h0) (hp (.len (.un 0) 0) (by simp[rLen32]))
 have h2:=cLe (bOf h0) (hp (.cmp .leq (.un 0) (zi 32) true) (by simp[rLen32]))
 show (F.R 0).length<=32
 omega
def rLen32b(nS:Nat):Rule:=⟨[.nat],[nS],0,[.cus 2 [] [0] [],.len (.un 0) 0],[⟨[],[],0,[.cmp .leq (.un 0) (zi 32) true]⟩]⟩
theorem rLen32b_ok{nS:Nat}:RuleOk (RTN f N) (rLen32b nS):=plain_ok rfl fun F hu hf hp r hr=>by
 obtain rfl:=List.mem_singleton.1 hr
 obtain⟨n,h0,_⟩:=tNat (hu (0,.nat) (by simp[rLen32b,numb]))
 have h1:=lenN (bOf h0) (hp (.len (.un 0) 0) (by simp[rLen32b]))
 have h2:(F.R 0).length<=32:=hp (.cus 2 [] [0] []) (by simp[rLen32b])
 exact mkLe (bOf h0) (by omega)
def rEm3(nS:Nat):Rule:=⟨[],[nS],0,[],[⟨[],[],0,[.cus 1003 [] [0] []]⟩]⟩
theorem rEm3_ok{nS:Nat}:RuleOk (RTN f N) (rEm3 nS):=plain_ok rfl fun F hu hf hp r hr=>by
 obtain rfl:=List.mem_singleton.1 hr
 exact trivial
def rUp3(nS:Nat):Rule:=⟨[.nat,.nat,.nat],[nS],2,[.cus 3 [] [0] [0],.up 0 (.un 0) 1,.le (.un 0) (.un 1),.len (.un 1) 0,.succ (.un 0) (.un 2)],[⟨[],[],0,[.cus 3 [] [0] [1]]⟩]⟩
theorem rUp3_ok{nS:Nat}:RuleOk (RTN f N) (rUp3 nS):=plain_ok rfl fun F hu hf hp r hr=>by
 obtain rfl:=List.mem_singleton.1 hr
 obtain⟨v,h0,_⟩:=tNat (hu (0,.nat) (by simp[rUp3,numb]))
 obtain⟨n,h1,_⟩:=tNat (hu (1,.nat) (by simp[rUp3,numb]))
 obtain⟨i,h2,_⟩:=tNat (hu (2,.nat) (by simp[rUp3,numb]))
 have g1:∀ e∈(F.M 0).1,∃n:Nat,e.2.1=.int .i64 n∧1<=n∧n<=(F.R 0).length:=hp (.cus 3 [] [0] [0]) (by simp[rUp3])
 obtain⟨q,g2,g3⟩:=hp (.up 0 (.un 0) 1) (by simp[rUp3])
 obtain⟨x,y,g4,g5,g6,_⟩:=hp (.le (.un 0) (.un 1)) (by simp[rUp3])
 have g7:=lenN (bOf h1) (hp (.len (.un 1) 0) (by simp[rUp3]))
 obtain⟨z,g8,g9⟩:=hp (.succ (.un 0) (.un 2)) (by simp[rUp3])
 have e1:=iOf g2 h0
 have e2:=nOf g4 h0
 have e3:=nOf g5 h1
 have e4:=iOf g8 h2
 have e5:=iOf g9 h0
 show ∀e∈(F.M 1).1,∃n:Nat,e.2.1=.int .i64 n∧1<=n∧n<=(F.R 0).length
 intro e he
 rcases g3 e he with k |⟨e0,k1,k2⟩
 ·exact⟨v,by rw[k,e1],by omega,by omega⟩
 ·rw[<-k2];exact g1 e0 k1
def rVal(nS:Nat):Rule:=⟨[.int .i64],[nS],1,[.val 0 (.un 0),.cus 3 [] [0] [0],.cus 2 [] [0] []],[⟨[],[],0,[.cmp .geq (.un 0) (zi 0) true,.cmp .leq (.un 0) (zi 32) true]⟩]⟩
theorem rVal_ok{nS:Nat}:RuleOk (RTN f N) (rVal nS):=plain_ok rfl fun F hu hf hp r hr=>by
 obtain⟨v,h0⟩:=tInt (hu (0,.int .i64) (by simp[rVal,numb]))
 obtain⟨q,g1,g2⟩:=hp (.val 0 (.un 0)) (by simp[rVal])
 have g3:∀ e∈(F.M 0).1,∃n:Nat,e.2.1=.int .i64 n∧1<=n∧n<=(F.R 0).length:=hp (.cus 3 [] [0] [0]) (by simp[rVal])
 have g4:(F.R 0).length<=32:=hp (.cus 2 [] [0] []) (by simp[rVal])
 have e1:=iOf g1 h0
 have hb:0<=v∧v<=32:=by
  rcases g2 with g2 |⟨e,k1,k2⟩
  ·omega
  ·obtain⟨n,m1,m2,m3⟩:=g3 e k1
   rw[m1]at k2;injection k2 with _ k2;omega
 simp only[List.mem_cons,List.not_mem_nil,or_false]at hr
 rcases hr with rfl |rfl
 ·exact mkGe (bOf h0) hb.1
 ·exact mkLe (bOf h0) hb.2
def rIdx(nS:Nat):Rule:=⟨[.int .i64,.int .i64],[nS],1,[.val 0 (.un 0),.cus 3 [] [0] [0],.succ (.un 0) (.un 1)],[⟨[],[],0,[.idx (.un 1) 0]⟩]⟩
theorem rIdx_ok{nS:Nat}:RuleOk (RTN f N) (rIdx nS):=plain_ok rfl fun F hu hf hp r hr=>by
 obtain rfl:=List.mem_singleton.1 hr
 obtain⟨v,h0⟩:=tInt (hu (0,.int .i64) (by simp[rIdx,numb]))
 obtain⟨z,h1⟩:=tInt (hu (1,.int .i64) (by simp[rIdx,numb]))
 obtain⟨q,g1,g2⟩:=hp (.val 0 (.un 0)) (by simp[rIdx])
 have g3:∀ e∈(F.M 0).1,∃n:Nat,e.2.1=.int .i64 n∧1<=n∧n<=(F.R 0).length:=hp (.cus 3 [] [0] [0]) (by simp[rIdx])
 obtain⟨x,g4,g5⟩:=hp (.succ (.un 0) (.un 1)) (by simp[rIdx])
 have e1:=iOf g1 h0
 have e2:=iOf g4 h1
 have e3:=iOf g5 h0
 refine⟨z,bOf h1,?_⟩
 rcases g2 with g2 |⟨e,k1,k2⟩
 ·constructor<;>omega
 ·obtain⟨n,m1,m2,m3⟩:=g3 e k1
  rw[m1]at k2;injection k2 with _ k2;constructor<;>omega
def rLtI(nS:Nat):Rule:=⟨[.int .i64,.nat],[nS],0,[.idx (.un 0) 0,.cmp .geq (.un 0) (zi 0) true,.len (.un 1) 0],[⟨[],[],0,[.sr (.lt (.un 0) (.un 1))]⟩]⟩
theorem rLtI_ok{nS:Nat}:RuleOk (RTN f N) (rLtI nS):=plain_ok rfl fun F hu hf hp r hr=>by
 obtain rfl:=List.mem_singleton.1 hr
 obtain⟨z,h0⟩:=tInt (hu (0,.int .i64) (by simp[rLtI,numb]))
 obtain⟨k,h1,_⟩:=tNat (hu (1,.nat) (by simp[rLtI,numb]))
 obtain⟨n,g1,_,g2⟩:=hp (.idx (.un 0) 0) (by simp[rLtI])
 have g3:=cGe (bOf h0) (hp (.cmp .geq (.un 0) (zi 0) true) (by simp[rLtI]))
 have g4:=lenN (bOf h1) (hp (.len (.un 1) 0) (by simp[rLtI]))
 have e1:=iOf g1 h0
 refine⟨z.toNat,k,?_,bOf h1,by omega⟩
 rw[bOf h0,Int.toNat_of_nonneg g3]
def rLt:Rule:=⟨[.nat,.nat],[],0,[.cmp .lss (.un 0) (.un 1) true],[⟨[],[],0,[.sr (.lt (.un 0) (.un 1))]⟩]⟩
theorem rLt_ok:RuleOk (RTN f N) rLt:=plain_ok rfl fun F hu hf hp r hr=>by
 obtain rfl:=List.mem_singleton.1 hr
 obtain⟨i,h0,_⟩:=tNat (hu (0,.nat) (by simp[rLt,numb]))
 obtain⟨k,h1,_⟩:=tNat (hu (1,.nat) (by simp[rLt,numb]))
 have g:=cLt (bOf h0) (bOf h1) (hp (.cmp .lss (.un 0) (.un 1) true) (by simp[rLt]))
 have g:=of_decide_eq_true g
 exact⟨i,k,bOf h0,bOf h1,by omega⟩
def rLtS:Rule:=⟨[.int .i64,.int .i64],[],0,[.succ (.un 1) (.un 0),.cmp .geq (.un 0) (zi 0) true],[⟨[],[],0,[.sr (.lt (.un 0) (.un 1)),.sr (.le (.un 0) (.un 1))]⟩]⟩
theorem rLtS_ok:RuleOk (RTN f N) rLtS:=plain_ok rfl fun F hu hf hp r hr=>by
 obtain⟨z,h0⟩:=tInt (hu (0,.int .i64) (by simp[rLtS,numb]))
 obtain⟨k,h1⟩:=tInt (hu (1,.int .i64) (by simp[rLtS,numb]))
 obtain⟨x,g1,g2⟩:=hp (.succ (.un 1) (.un 0)) (by simp[rLtS])
 have g3:=cGe (bOf h0) (hp (.cmp .geq (.un 0) (zi 0) true) (by simp[rLtS]))
 have e1:=iOf g1 h0
 have e2:=iOf g2 h1
 have z1:@bas F (.un 0)=.sc (.int .i64 (z.toNat:Nat)):=by rw[bOf h0,Int.toNat_of_nonneg g3]
 have z2:@bas F (.un 1)=.sc (.int .i64 ((z.toNat+1:Nat):Int)):=by rw[bOf h1];congr 2;omega
 simp only[List.mem_cons,List.not_mem_nil,or_false]at hr
 rcases hr with rfl |rfl
 ·exact⟨_,_,z1,z2,by omega⟩
 ·exact⟨_,_,z1,z2,by omega⟩
def rInvB:Rule:=⟨[.nat,.nat,.int .i64],[102],0,[.cus 5 [.un 0,.un 1,.un 2] [0] []],[⟨[],[],0,[.cmp .leq (.un 2) (zi 65) true]⟩]⟩
theorem rInvB_ok:RuleOk (RTN f N) rInvB:=plain_ok rfl fun F hu hf hp r hr=>by
 obtain rfl:=List.mem_singleton.1 hr
 obtain⟨gn,nn,kn,q1,q2,q3,q4,q5⟩:=hp (.cus 5 [.un 0,.un 1,.un 2] [0] []) (by simp[rInvB])
 exact mkLe q3 (by omega)
def rPop8:Rule:=⟨[.int .i64,.int .i64],[101],0,[.sr (.le (.un 0) (.un 1)),.cus 8 [.un 1] [0] []],[⟨[],[],0,[.cus 8 [.un 0] [0] []]⟩]⟩
theorem rPop8_ok:RuleOk (RTN f N) rPop8:=plain_ok rfl fun F hu hf hp r hr=>by
 obtain rfl:=List.mem_singleton.1 hr
 obtain⟨z,k,g1,g2,g3⟩:=hp (.sr (.le (.un 0) (.un 1))) (by simp[rPop8])
 obtain⟨kn,g4,g5⟩:=hp (.cus 8 [.un 1] [0] []) (by simp[rPop8])
 have e:=bas_int_inj g2 g4
 exact⟨z,g1,by show z<=(F.R 0).length;have g5:kn<=(F.R 0).length:=g5;omega⟩
def rPop6:Rule:=⟨[.nat,.nat,.int .i64,.int .i64],[102],0,[.cus 5 [.un 0,.un 1,.un 2] [0] [],.succ (.un 2) (.un 3),.cmp .geq (.un 3) (zi 0) true],[⟨[],[],0,[.cus 6 [.un 0,.un 1,.un 3] [0] []]⟩]⟩
theorem rPop6_ok:RuleOk (RTN f N) rPop6:=plain_ok rfl fun F hu hf hp r hr=>by
 obtain rfl:=List.mem_singleton.1 hr
 obtain⟨gn,nn,kn,q1,q2,q3,q4,q5⟩:=hp (.cus 5 [.un 0,.un 1,.un 2] [0] []) (by simp[rPop6])
 obtain⟨z,h0⟩:=tInt (hu (3,.int .i64) (by simp[rPop6,numb]))
 obtain⟨x,g1,g2⟩:=hp (.succ (.un 2) (.un 3)) (by simp[rPop6])
 have g3:=cGe (bOf h0) (hp (.cmp .geq (.un 3) (zi 0) true) (by simp[rPop6]))
 have e1:=iOf g1 h0
 rw[q3]at g2;injection g2 with g2;injection g2 with _ g2
 have q4:2 *unmet (F.R 0)+kn+gn<=nn:=q4
 refine⟨gn,nn,z.toNat,q1,q2,by rw[bOf h0,Int.toNat_of_nonneg g3],?_,q5⟩
 show 2 *unmet (F.R 0)+z.toNat+1+gn<=nn
 omega
def rInv6:Rule:=⟨[.nat,.nat,.int .i64,.nat,.int .i64],[102,102],0,[.cus 6 [.un 0,.un 1,.un 2] [0] [],.sr (.ls 0 (.un 4) t1 1),.sr (.ll 0 (.un 4) f1),.succ (.un 3) (.un 2)],[⟨[],[],0,[.cus 6 [.un 0,.un 1,.un 3] [1] []]⟩]⟩
theorem rInv6_ok:RuleOk (RTN f N) rInv6:=plain_ok rfl fun F hu hf hp r hr=>by
 obtain rfl:=List.mem_singleton.1 hr
 obtain⟨gn,nn,kn,q1,q2,q3,q4,q5⟩:=hp (.cus 6 [.un 0,.un 1,.un 2] [0] []) (by simp[rInv6])
 obtain⟨z,g1,g2,g3⟩:=hp (.sr (.ls 0 (.un 4) t1 1)) (by simp[rInv6])
 obtain⟨z',g4,g5⟩:=hp (.sr (.ll 0 (.un 4) f1)) (by simp[rInv6])
 have e:=bas_int_inj g4 g1
 subst e
 obtain⟨x,g6,g7⟩:=hp (.succ (.un 3) (.un 2)) (by simp[rInv6])
 rw[q3]at g6;injection g6 with g6;injection g6 with _ g6
 have hx:x=(kn:Int):=g6.symm
 rw[hx]at g7
 have q4:2 *unmet (F.R 0)+kn+1+gn<=nn:=q4
 have hm:=unmet_set (F.R 0) z' g5
 have g3:F.R 1=(F.R 0).set z' [.sc (.bool true)]:=g3
 refine⟨gn,nn,kn+1,q1,q2,by rw[g7];congr 2,?_,q5⟩
 show 2 *unmet (F.R 1)+(kn+1)+1+gn<=nn
 rw[g3];omega
def rSS:Rule:=⟨[.nat,.nat,.nat,.nat],[],0,[.succ (.un 0) (.un 1),.succ (.un 2) (.un 0),.succ (.un 3) (.un 1)],[⟨[],[],0,[.succ (.un 2) (.un 3)]⟩]⟩
theorem rSS_ok:RuleOk (RTN f N) rSS:=plain_ok rfl fun F hu hf hp r hr=>by
 obtain rfl:=List.mem_singleton.1 hr
 obtain⟨x,g1,g2⟩:=hp (.succ (.un 0) (.un 1)) (by simp[rSS])
 obtain⟨y,g3,g4⟩:=hp (.succ (.un 2) (.un 0)) (by simp[rSS])
 obtain⟨z,g5,g6⟩:=hp (.succ (.un 3) (.un 1)) (by simp[rSS])
 rw[g2]at g3;injection g3 with g3;injection g3 with _ g3
 rw[g1]at g5;injection g5 with g5;injection g5 with _ g5
 exact⟨x+1,by rw[g6,g5],by rw[g4,<-g3]⟩
end
theorem new_ok{RT:RTab}{R:Rule}{a:RAlt}(hR:R.alts=[a])(h:∀ F:Far,(∀e∈numb 0 R.u,TyV RT e.2 (.sc (F.U e.1)))->(∀e∈numb 0 R.f,TyV RT (.rows e.2) (.fs (F.R e.1)))->(∀r∈R.pre,@Rel.Holds F RT r)->∃ G:Far,F.Agree R.c G∧RAltOk RT G R a):RuleOk RT R:=by
 intro F hu hf hp
 obtain⟨G,h1,h2⟩:=h F hu hf hp
 exact⟨a,by rw[hR];simp,G,h1,h2⟩
theorem bz_sc{rows:List (List IV)}(h:∀ r∈rows,∃v,r=[.sc v]):∀ r∈rows,∀x∈r,Bz x:=fun r hr x hx=>by
 obtain⟨v,rfl⟩:=h r hr
 have:x=.sc v:=by simpa using hx
 subst this;exact .sc
theorem ty_one{f:Nat->List Ty}{N:PN}{n:Nat}{t:Ty}(ht:(RTN f N) n=[t]){rows:List (List IV)}(hl:rows.length<=maxL)(h:∀ r∈rows,∃x,r=[x]∧TyV (RTN f N) t x):TyV (RTN f N) (.rows n) (.fs rows):=by
 refine .rows hl (fun r hr=> ?_) fun r hr k hk hk'=> ?_
 ·obtain⟨x,rfl,_⟩:=h r hr;rw[ht];rfl
 ·obtain⟨x,rfl,hx⟩:=h r hr
  have hk0:k=0:=by simpa using hk'
  subst hk0
  simp only[ht,List.getElem_cons_zero];exact hx
theorem one_ty{f:Nat->List Ty}{N:PN}{n:Nat}{t:Ty}(ht:(RTN f N) n=[t]){rows:List (List IV)}(h:TyV (RTN f N) (.rows n) (.fs rows)):rows.length<=maxL∧∀ r∈rows,∃x,r=[x]∧TyV (RTN f N) t x:=by
 cases h with
 |rows h1 h2 h3=>
  refine⟨h1,fun r hr=> ?_⟩
  have hl:=h2 r hr
  have h4:=h3 r hr
  simp only[ht,List.length_cons,List.length_nil,Nat.zero_add]at hl h4
  match r,hl with
  | [x],_=>
    refine⟨x,rfl,?_⟩
    exact h4 0 (by simp) (by simp)
theorem rt101{f:Nat->List Ty}{N:PN}:(RTN f N) 101=[.int .i64]:=rfl
theorem rt102{f:Nat->List Ty}{N:PN}:(RTN f N) 102=[.boo]:=rfl
theorem rt103{f:Nat->List Ty}{N:PN}:(RTN f N) 103=[.str strM]:=rfl
section
variable {N:PN}
def rMake:Rule:=⟨[.nat],[],0,[.cmp .leq (.un 0) (zi 32) true],[⟨[],[102],0,[.sr (.lm (.un 0) f1 0),.len (.un 0) 0]⟩]⟩
theorem rMake_ok:RuleOk (RTN f N) rMake:=new_ok rfl fun F hu hf hp=>by
 obtain⟨n,h0,_⟩:=tNat (hu (0,.nat) (by simp[rMake,numb]))
 have h1:=cLe (bOf h0) (hp (.cmp .leq (.un 0) (zi 32) true) (by simp[rMake]))
 have hb:∀ r∈List.replicate n f1,∀x∈r,Bz x:=bz_sc fun r hr=>⟨_,(List.mem_replicate.1 hr).2⟩
 refine⟨F.putR 0 (List.replicate n f1) hb,F.putR_agree hb (Nat.le_refl _),⟨fun e he=>by simp[numb]at he,fun e he=> ?_,fun r hr=> ?_⟩⟩
 ·have he:=numb1 he
  subst he
  show TyV _ _ (.fs ((F.putR 0 (List.replicate n f1) hb).R 0))
  rw[F.putR_same hb]
  exact ty_one rt102 (by simp;unfold maxL;omega) fun r hr=>⟨_,(List.mem_replicate.1 hr).2,.boo⟩
 ·simp only[List.mem_cons,List.not_mem_nil,or_false]at hr
  rcases hr with rfl |rfl
  ·exact⟨n,bOf h0,by omega,F.putR_same hb⟩
  ·refine mkLen (n:=n) (bOf h0) ?_
   show n=((F.putR 0 (List.replicate n f1) hb).R 0).length
   rw[F.putR_same hb,List.length_replicate]
def rLlB:Rule:=⟨[.int .i64,.nat],[102],0,[.sr (.lt (.un 0) (.un 1)),.len (.un 1) 0],[⟨[],[],0,[.sr (.ll 0 (.un 0) t1)]⟩,⟨[],[],0,[.sr (.ll 0 (.un 0) f1)]⟩]⟩
theorem rLlB_ok:RuleOk (RTN f N) rLlB:=by
 intro F hu hf hp
 obtain⟨n,m,h1,h2,h3⟩:=hp (.sr (.lt (.un 0) (.un 1))) (by simp[rLlB])
 have h4:=lenN h2 (hp (.len (.un 1) 0) (by simp[rLlB]))
 obtain⟨_,h5⟩:=one_ty rt102 (hf (0,102) (by simp[rLlB,numb]))
 have hlt:n<(F.R 0).length:=by omega
 obtain⟨x,hx,hty⟩:=h5 _ (List.getElem_mem hlt)
 have hrow:(F.R 0)[n]? =some [x]:=by rw[List.getElem?_eq_getElem hlt,hx]
 cases hty with
 |boo=>
  rename_i b
  cases b
  ·exact⟨⟨[],[],0,[.sr (.ll 0 (.un 0) f1)]⟩,by simp[rLlB],F,Far.Agree.refl _ _,⟨fun e he=>by simp[numb]at he,fun e he=>by simp[numb]at he,fun r hr=>by
    obtain rfl:=List.mem_singleton.1 hr
    exact⟨n,h1,hrow⟩⟩⟩
  ·exact⟨⟨[],[],0,[.sr (.ll 0 (.un 0) t1)]⟩,by simp[rLlB],F,Far.Agree.refl _ _,⟨fun e he=>by simp[numb]at he,fun e he=>by simp[numb]at he,fun r hr=>by
    obtain rfl:=List.mem_singleton.1 hr
    exact⟨n,h1,hrow⟩⟩⟩
def rLsB:Rule:=⟨[.int .i64,.nat],[102],0,[.sr (.lt (.un 0) (.un 1)),.len (.un 1) 0],[⟨[],[102],0,[.sr (.ls 0 (.un 0) t1 1),.len (.un 1) 1]⟩]⟩
theorem rLsB_ok:RuleOk (RTN f N) rLsB:=new_ok rfl fun F hu hf hp=>by
 obtain⟨n,m,h1,h2,h3⟩:=hp (.sr (.lt (.un 0) (.un 1))) (by simp[rLsB])
 have h4:=lenN h2 (hp (.len (.un 1) 0) (by simp[rLsB]))
 obtain⟨h5,h6⟩:=one_ty rt102 (hf (0,102) (by simp[rLsB,numb]))
 have hty:∀ r∈(F.R 0).set n t1,∃x,r=[x]∧TyV (RTN f N) .boo x:=fun r hr=>by
  rcases List.mem_or_eq_of_mem_set hr with hr |rfl
  ·exact h6 r hr
  ·exact⟨_,rfl,.boo⟩
 have hb:∀ r∈(F.R 0).set n t1,∀x∈r,Bz x:=fun r hr x hx=>by
  obtain⟨y,rfl,hy⟩:=hty r hr
  have:x=y:=by simpa using hx
  subst this;exact bz_ty hy
 have hs:=F.putR_same (k:=1) hb
 refine⟨F.putR 1 ((F.R 0).set n t1) hb,F.putR_agree hb (Nat.le_refl _),⟨fun e he=>by simp[numb]at he,fun e he=> ?_,fun r hr=> ?_⟩⟩
 ·have he:=numb1 he
  subst he
  show TyV _ _ (.fs ((F.putR 1 ((F.R 0).set n t1) hb).R 1))
  rw[hs]
  exact ty_one rt102 (by rw[List.length_set];exact h5) hty
 ·simp only[List.mem_cons,List.not_mem_nil,or_false]at hr
  rcases hr with rfl |rfl
  ·exact⟨n,h1,by show n<(F.R 0).length;omega,hs⟩
  ·refine mkLen (F:=F.putR 1 ((F.R 0).set n t1) hb) (n:=m) h2 ?_
   rw[hs,List.length_set];exact h4
def rInv0:Rule:=⟨[.nat],[102],0,[.sr (.lm (.un 0) f1 0),.cmp .leq (.un 0) (zi 32) true],[⟨[.nat],[],0,[.cus 5 [zi 0,.un 1,zi 1] [0] []]⟩]⟩
theorem rInv0_ok:RuleOk (RTN f N) rInv0:=new_ok rfl fun F hu hf hp=>by
 obtain⟨n,h1,_,h3⟩:=hp (.sr (.lm (.un 0) f1 0)) (by simp[rInv0])
 have h4:=cLe h1 (hp (.cmp .leq (.un 0) (zi 32) true) (by simp[rInv0]))
 have hsc:scalar (.int .i64 ((2 *n+1:Nat):Int))=true:=rfl
 have hs:=F.putU_same (k:=1) hsc
 refine⟨F.putU 1 _ hsc,F.putU_agree hsc (Nat.le_refl _),⟨fun e he=> ?_,fun e he=>by simp[numb]at he,fun r hr=> ?_⟩⟩
 ·have he:=numb1 he
  subst he
  show TyV _ _ (.sc ((F.putU 1 _ hsc).U 1))
  rw[hs];exact .nat (by unfold maxI;omega)
 ·obtain rfl:=List.mem_singleton.1 hr
  refine⟨0,2 *n+1,1,rfl,bOf (F:=F.putU 1 _ hsc) hs,rfl,?_,by omega⟩
  show 2 *unmet (F.R 0)+1+0<=2 *n+1
  have h3:F.R 0=List.replicate n [.sc (.bool false)]:=h3
  rw[h3,unmet_rep];omega
def rLlI(nS:Nat):Rule:=⟨[.int .i64,.int .i64],[101,nS],0,[.sr (.lt (.un 0) (.un 1)),.cus 8 [.un 1] [0] [],.cus 7 [] [0,1] []],[⟨[.int .i64],[],0,[.sr (.ll 0 (.un 0) [.un 2]),.idx (.un 2) 1,.cmp .geq (.un 2) (zi 0) true]⟩]⟩
theorem rLlI_ok{nS:Nat}:RuleOk (RTN f N) (rLlI nS):=new_ok rfl fun F hu hf hp=>by
 obtain⟨n,m,h1,h2,h3⟩:=hp (.sr (.lt (.un 0) (.un 1))) (by simp[rLlI])
 obtain⟨kn,h4,h5⟩:=hp (.cus 8 [.un 1] [0] []) (by simp[rLlI])
 have h5:kn<=(F.R 0).length:=h5
 have h6:∀ row∈F.R 0,∃n:Nat,row=[.sc (.int .i64 n)]∧n<(F.R 1).length:=hp (.cus 7 [] [0,1] []) (by simp[rLlI])
 have e:=bas_int_inj h2 h4
 have hlt:n<(F.R 0).length:=by omega
 obtain⟨x,hx,hxl⟩:=h6 _ (List.getElem_mem hlt)
 have hsc:scalar (.int .i64 (x:Int))=true:=rfl
 have hs:=F.putU_same (k:=2) hsc
 have hb:=bOf (F:=F.putU 2 _ hsc) hs
 refine⟨F.putU 2 _ hsc,F.putU_agree hsc (Nat.le_refl _),⟨fun e he=> ?_,fun e he=>by simp[numb]at he,fun r hr=> ?_⟩⟩
 ·have he:=numb1 he
  subst he
  show TyV _ _ (.sc ((F.putU 2 _ hsc).U 2))
  rw[hs];exact .int
 ·simp only[List.mem_cons,List.not_mem_nil,or_false]at hr
  rcases hr with rfl |rfl |rfl
  ·refine⟨n,h1,?_⟩
   show (F.R 0)[n]? =some [IV.sc ((F.putU 2 _ hsc).U 2)]
   rw[hs,List.getElem?_eq_getElem hlt,hx]
  ·exact⟨x,hb,by omega,by show (x:Int)<(F.R 1).length;omega⟩
  ·exact mkGe hb (by omega)
def rLpI(nS:Nat):Rule:=⟨[.int .i64,.int .i64,.nat,.nat],[101,nS,102],0,[.cus 8 [.un 0] [0] [],.cus 6 [.un 2,.un 3,.un 0] [2] [],.cus 7 [] [0,1] [],.idx (.un 1) 1,.cmp .geq (.un 1) (zi 0) true],
 [⟨[.nat],[101],0,[.sr (.lp 0 (.un 0) [.un 1] 3 (.un 4)),.succ (.un 4) (.un 0),.cus 8 [.un 4] [3] [],.cus 7 [] [3,1] []]⟩]⟩
theorem rLpI_ok{nS:Nat}:RuleOk (RTN f N) (rLpI nS):=new_ok rfl fun F hu hf hp=>by
 obtain⟨kn,h1,h2⟩:=hp (.cus 8 [.un 0] [0] []) (by simp[rLpI])
 have h2:kn<=(F.R 0).length:=h2
 obtain⟨gn,nn,kn',q1,q2,q3,q4,q5⟩:=hp (.cus 6 [.un 2,.un 3,.un 0] [2] []) (by simp[rLpI])
 have q4:2 *unmet (F.R 2)+kn'+1+gn<=nn:=q4
 have e:=bas_int_inj h1 q3
 have h6:∀ row∈F.R 0,∃n:Nat,row=[.sc (.int .i64 n)]∧n<(F.R 1).length:=hp (.cus 7 [] [0,1] []) (by simp[rLpI])
 obtain⟨x,h7,_,h8⟩:=hp (.idx (.un 1) 1) (by simp[rLpI])
 have h9:=cGe h7 (hp (.cmp .geq (.un 1) (zi 0) true) (by simp[rLpI]))
 have hux:F.U 1=.int .i64 ((x.toNat:Nat):Int):=by
  have h7:IV.sc (F.U 1)=.sc (.int .i64 x):=h7
  injection h7 with h7;rw[h7,Int.toNat_of_nonneg h9]
 let rows:=(F.R 0).take kn++[[IV.sc (.int .i64 ((x.toNat:Nat):Int))]]
 have hr7:∀ row∈rows,∃n:Nat,row=[.sc (.int .i64 n)]∧n<(F.R 1).length:=fun row hr=>by
  rcases List.mem_append.1 hr with hr |hr
  ·exact h6 row (List.mem_of_mem_take hr)
  ·exact⟨x.toNat,by simpa using hr,by omega⟩
 have hb:∀ r∈rows,∀y∈r,Bz y:=bz_sc fun r hr=>by obtain⟨n,rfl,_⟩:=hr7 r hr;exact⟨_,rfl⟩
 have hsc:scalar (.int .i64 ((kn+1:Nat):Int))=true:=rfl
 let F1:=F.putU 4 _ hsc
 have hs1:(F1.putR 3 rows hb).U 4=.int .i64 ((kn+1:Nat):Int):=F.putU_same hsc
 have hs:=F1.putR_same (k:=3) hb
 have hlen:rows.length=kn+1:=by simp[rows,Nat.min_eq_left h2]
 refine⟨F1.putR 3 rows hb,(F.putU_agree hsc (Nat.le_refl _)).trans (F1.putR_agree hb (Nat.le_refl _)),⟨fun e he=> ?_,fun e he=> ?_,fun r hr=> ?_⟩⟩
 ·have he:=numb1 he
  subst he
  show TyV _ _ (.sc ((F1.putR 3 rows hb).U 4))
  rw[hs1];exact .nat (by unfold maxI;omega)
 ·have he:=numb1 he
  subst he
  show TyV _ _ (.fs ((F1.putR 3 rows hb).R 3))
  rw[hs]
  exact ty_one rt101 (by rw[hlen];unfold maxL;omega) fun r hr=>by obtain⟨n,rfl,_⟩:=hr7 r hr;exact⟨_,rfl,.int⟩
 ·simp only[List.mem_cons,List.not_mem_nil,or_false]at hr
  rcases hr with rfl |rfl |rfl |rfl
  ·refine⟨kn,h1,h2,by omega,?_,bOf (F:=F1.putR 3 rows hb) hs1⟩
   rw[hs]
   show rows=(F.R 0).take kn++[[IV.sc (F.U 1)]]
   rw[hux]
  ·exact⟨kn,h1,by rw[bOf (F:=F1.putR 3 rows hb) hs1];rfl⟩
  ·exact⟨kn+1,bOf (F:=F1.putR 3 rows hb) hs1,by show kn+1<=((F1.putR 3 rows hb).R 3).length;rw[hs,hlen];exact Nat.le_refl _⟩
  ·show ∀row∈(F1.putR 3 rows hb).R 3,∃n:Nat,row=[.sc (.int .i64 n)]∧n<(F.R 1).length
   rw[hs];exact hr7
def rInv5:Rule:=⟨[.nat,.nat,.int .i64],[102],0,[.cus 6 [.un 0,.un 1,.un 2] [0] []],[⟨[.nat],[],0,[.succ (.un 3) (.un 0),.le (.un 3) (.un 1),.cus 5 [.un 3,.un 1,.un 2] [0] []]⟩]⟩
theorem rInv5_ok:RuleOk (RTN f N) rInv5:=new_ok rfl fun F hu hf hp=>by
 obtain⟨gn,nn,kn,q1,q2,q3,q4,q5⟩:=hp (.cus 6 [.un 0,.un 1,.un 2] [0] []) (by simp[rInv5])
 have q4:2 *unmet (F.R 0)+kn+1+gn<=nn:=q4
 have hsc:scalar (.int .i64 ((gn+1:Nat):Int))=true:=rfl
 have hs:=F.putU_same (k:=3) hsc
 have hb:=bOf (F:=F.putU 3 _ hsc) hs
 refine⟨F.putU 3 _ hsc,F.putU_agree hsc (Nat.le_refl _),⟨fun e he=> ?_,fun e he=>by simp[numb]at he,fun r hr=> ?_⟩⟩
 ·have he:=numb1 he
  subst he
  show TyV _ _ (.sc ((F.putU 3 _ hsc).U 3))
  rw[hs];exact .nat (by unfold maxI;omega)
 ·simp only[List.mem_cons,List.not_mem_nil,or_false]at hr
  rcases hr with rfl |rfl |rfl
  ·exact⟨gn,q1,hb⟩
  ·exact⟨gn+1,nn,hb,q2,by omega,by unfold maxI;omega⟩
  ·refine⟨gn+1,nn,kn,hb,q2,q3,?_,q5⟩
   show 2 *unmet (F.R 0)+kn+(gn+1)<=nn
   omega
def rLit1(nS:Nat):Rule:=⟨[.nat,.nat],[nS],0,[.cmp .lss (.un 0) (.un 1) true,.len (.un 1) 0],[⟨[],[101],0,[.sr (.lit 1 [[.un 0]]),.cus 7 [] [1,0] [],.cus 8 [zi 1] [1] []]⟩]⟩
theorem rLit1_ok{nS:Nat}:RuleOk (RTN f N) (rLit1 nS):=new_ok rfl fun F hu hf hp=>by
 obtain⟨i,h0,_⟩:=tNat (hu (0,.nat) (by simp[rLit1,numb]))
 obtain⟨n,h1,_⟩:=tNat (hu (1,.nat) (by simp[rLit1,numb]))
 have g:=of_decide_eq_true (cLt (bOf h0) (bOf h1) (hp (.cmp .lss (.un 0) (.un 1) true) (by simp[rLit1])))
 have g1:=lenN (bOf h1) (hp (.len (.un 1) 0) (by simp[rLit1]))
 have hb:∀ r∈([[.sc (.int .i64 i)]]:List (List IV)),∀y∈r,Bz y:=bz_sc fun r hr=>⟨_,List.mem_singleton.1 hr⟩
 have hs:=F.putR_same (k:=1) hb
 refine⟨F.putR 1 _ hb,F.putR_agree hb (Nat.le_refl _),⟨fun e he=>by simp[numb]at he,fun e he=> ?_,fun r hr=> ?_⟩⟩
 ·have he:=numb1 he
  subst he
  show TyV _ _ (.fs ((F.putR 1 _ hb).R 1))
  rw[hs]
  exact ty_one rt101 (by unfold maxL;simp) fun r hr=>⟨_,List.mem_singleton.1 hr,.int⟩
 ·simp only[List.mem_cons,List.not_mem_nil,or_false]at hr
  rcases hr with rfl |rfl |rfl
  ·show (F.putR 1 _ hb).R 1=[[IV.sc (F.U 0)]]
   rw[hs,h0]
  ·show ∀row∈(F.putR 1 _ hb).R 1,∃n:Nat,row=[.sc (.int .i64 n)]∧n<(F.R 0).length
   rw[hs]
   intro row hr
   exact⟨i,List.mem_singleton.1 hr,by omega⟩
  ·exact⟨1,rfl,by show 1<=((F.putR 1 _ hb).R 1).length;rw[hs];exact Nat.le_refl _⟩
def rLitS:Rule:=⟨[.str strM],[],0,[],[⟨[],[103],0,[.sr (.lit 0 [[.un 0]]),.len (zi 1) 0]⟩]⟩
theorem rLitS_ok:RuleOk (RTN f N) rLitS:=new_ok rfl fun F hu hf hp=>by
 obtain⟨s,h0,h1⟩:=tStr (hu (0,.str strM) (by simp[rLitS,numb]))
 have hb:∀ r∈([[.sc (.string s)]]:List (List IV)),∀y∈r,Bz y:=bz_sc fun r hr=>⟨_,List.mem_singleton.1 hr⟩
 have hs:=F.putR_same (k:=0) hb
 refine⟨F.putR 0 _ hb,F.putR_agree hb (Nat.le_refl _),⟨fun e he=>by simp[numb]at he,fun e he=> ?_,fun r hr=> ?_⟩⟩
 ·have he:=numb1 he
  subst he
  show TyV _ _ (.fs ((F.putR 0 _ hb).R 0))
  rw[hs]
  exact ty_one rt103 (by unfold maxL;simp) fun r hr=>⟨_,List.mem_singleton.1 hr,.str h1⟩
 ·simp only[List.mem_cons,List.not_mem_nil,or_false]at hr
  rcases hr with rfl |rfl
  ·show (F.putR 0 _ hb).R 0=[[IV.sc (F.U 0)]]
   rw[hs,h0]
  ·refine mkLen (F:=F.putR 0 _ hb) (n:=1) rfl ?_
   rw[hs];rfl
def rLpS:Rule:=⟨[.nat,.str strM,.nat,.nat],[103],0,[.len (.un 0) 0,.succ (.un 0) (.un 2),.cmp .lss (.un 2) (.un 3) true,.cmp .leq (.un 3) (zi 32) true],[⟨[.nat],[103],0,[.sr (.lp 0 (.un 0) [.un 1] 1 (.un 4)),.len (.un 4) 1,.succ (.un 4) (.un 0)]⟩]⟩
theorem rLpS_ok:RuleOk (RTN f N) rLpS:=new_ok rfl fun F hu hf hp=>by
 obtain⟨k,h0,_⟩:=tNat (hu (0,.nat) (by simp[rLpS,numb]))
 obtain⟨s,h1,h2⟩:=tStr (hu (1,.str strM) (by simp[rLpS,numb]))
 obtain⟨j,h3,_⟩:=tNat (hu (2,.nat) (by simp[rLpS,numb]))
 obtain⟨nc,h4,_⟩:=tNat (hu (3,.nat) (by simp[rLpS,numb]))
 have g1:=lenN (bOf h0) (hp (.len (.un 0) 0) (by simp[rLpS]))
 obtain⟨x,g2,g3⟩:=hp (.succ (.un 0) (.un 2)) (by simp[rLpS])
 have e1:=iOf g2 h3
 have e2:=iOf g3 h0
 have g4:=of_decide_eq_true (cLt (bOf h3) (bOf h4) (hp (.cmp .lss (.un 2) (.un 3) true) (by simp[rLpS])))
 have g5:=cLe (bOf h4) (hp (.cmp .leq (.un 3) (zi 32) true) (by simp[rLpS]))
 obtain⟨g6,g7⟩:=one_ty rt103 (hf (0,103) (by simp[rLpS,numb]))
 let rows:=(F.R 0).take k++[[IV.sc (.string s)]]
 have hty:∀ r∈rows,∃x,r=[x]∧TyV (RTN f N) (.str strM) x:=fun r hr=>by
  rcases List.mem_append.1 hr with hr |hr
  ·exact g7 r (List.mem_of_mem_take hr)
  ·exact⟨_,by simpa using hr,.str h2⟩
 have hb:∀ r∈rows,∀y∈r,Bz y:=fun r hr x hx=>by
  obtain⟨y,rfl,hy⟩:=hty r hr
  have:x=y:=by simpa using hx
  subst this;exact bz_ty hy
 have hsc:scalar (.int .i64 ((k+1:Nat):Int))=true:=rfl
 let F1:=F.putU 4 _ hsc
 have hs1:(F1.putR 1 rows hb).U 4=.int .i64 ((k+1:Nat):Int):=F.putU_same hsc
 have hs:=F1.putR_same (k:=1) hb
 have hlen:rows.length=k+1:=by simp[rows];omega
 refine⟨F1.putR 1 rows hb,(F.putU_agree hsc (Nat.le_refl _)).trans (F1.putR_agree hb (Nat.le_refl _)),⟨fun e he=> ?_,fun e he=> ?_,fun r hr=> ?_⟩⟩
 ·have he:=numb1 he
  subst he
  show TyV _ _ (.sc ((F1.putR 1 rows hb).U 4))
  rw[hs1];exact .nat (by unfold maxI;omega)
 ·have he:=numb1 he
  subst he
  show TyV _ _ (.fs ((F1.putR 1 rows hb).R 1))
  rw[hs]
  exact ty_one rt103 (by rw[hlen];unfold maxL;omega) hty
 ·simp only[List.mem_cons,List.not_mem_nil,or_false]at hr
  rcases hr with rfl |rfl |rfl
  ·refine⟨k,bOf h0,by show k<=(F.R 0).length;omega,by omega,?_,bOf (F:=F1.putR 1 rows hb) hs1⟩
   rw[hs]
   show rows=(F.R 0).take k++[[IV.sc (F.U 1)]]
   rw[h1]
  ·exact mkLen (F:=F1.putR 1 rows hb) (n:=k+1) (bOf (F:=F1.putR 1 rows hb) hs1) (by rw[hs,hlen])
  ·exact⟨k,bOf h0,by rw[bOf (F:=F1.putR 1 rows hb) hs1];rfl⟩
def rLlS:Rule:=⟨[.nat,.nat],[103],0,[.cmp .lss (.un 0) (.un 1) true,.len (.un 1) 0],[⟨[.str strM],[],0,[.sr (.ll 0 (.un 0) [.un 2])]⟩]⟩
theorem rLlS_ok:RuleOk (RTN f N) rLlS:=new_ok rfl fun F hu hf hp=>by
 obtain⟨i,h0,_⟩:=tNat (hu (0,.nat) (by simp[rLlS,numb]))
 obtain⟨k,h1,_⟩:=tNat (hu (1,.nat) (by simp[rLlS,numb]))
 have g:=of_decide_eq_true (cLt (bOf h0) (bOf h1) (hp (.cmp .lss (.un 0) (.un 1) true) (by simp[rLlS])))
 have g1:=lenN (bOf h1) (hp (.len (.un 1) 0) (by simp[rLlS]))
 obtain⟨_,g2⟩:=one_ty rt103 (hf (0,103) (by simp[rLlS,numb]))
 have hlt:i<(F.R 0).length:=by omega
 obtain⟨x,hx,hty⟩:=g2 _ (List.getElem_mem hlt)
 cases hty with
 |str hle=>
  rename_i s
  have hsc:scalar (.string s)=true:=rfl
  have hs:=F.putU_same (k:=2) hsc
  refine⟨F.putU 2 _ hsc,F.putU_agree hsc (Nat.le_refl _),⟨fun e he=> ?_,fun e he=>by simp[numb]at he,fun r hr=> ?_⟩⟩
  ·have he:=numb1 he
   subst he
   show TyV _ _ (.sc ((F.putU 2 _ hsc).U 2))
   rw[hs];exact .str hle
  ·obtain rfl:=List.mem_singleton.1 hr
   refine⟨i,bOf (F:=F.putU 2 _ hsc) h0,?_⟩
   show (F.R 0)[i]? =some [IV.sc ((F.putU 2 _ hsc).U 2)]
   rw[hs,List.getElem?_eq_getElem hlt,hx]
def sB:Ty:=.str 1048576
def stC:List IV:=[.un 2,.un 3,.un 4,.un 5,.fu 1,.un 6]
def rCas(nS nC:Nat):Rule:=⟨[.nat,.int .i64,sB,sB,sB,sB,sB],[nS,nC],0,[.cus 9 [] [0] [],.sr (.ll 0 (.un 1) stC),.len (.un 0) 1],[⟨[],[],0,[.cmp .leq (.un 0) (zi 32) true]⟩]⟩
theorem rCas_ok{nS nC:Nat}:RuleOk (RTN f N) (rCas nS nC):=plain_ok rfl fun F hu hf hp r hr=>by
 obtain rfl:=List.mem_singleton.1 hr
 obtain⟨n,h0,_⟩:=tNat (hu (0,.nat) (by simp[rCas,numb]))
 have h1:∀ row∈F.R 0,∀rows,row[4]? =some (.fs rows)->rows.length<=32:=hp (.cus 9 [] [0] []) (by simp[rCas])
 obtain⟨i,h2,h3⟩:=hp (.sr (.ll 0 (.un 1) stC)) (by simp[rCas])
 have h4:=lenN (bOf h0) (hp (.len (.un 0) 1) (by simp[rCas]))
 have:=h1 _ (List.mem_of_getElem? h3) (F.R 1) rfl
 exact mkLe (bOf h0) (by omega)
def rCas0(nS:Nat):Rule:=⟨[],[nS],0,[],[⟨[],[],0,[.cus 10 [zi 0] [0] []]⟩]⟩
theorem rCas0_ok{nS:Nat}:RuleOk (RTN f N) (rCas0 nS):=plain_ok rfl fun F hu hf hp r hr=>by
 obtain rfl:=List.mem_singleton.1 hr
 exact⟨0,rfl,fun q row hq=>by omega⟩
def rCas1(nS nC:Nat):Rule:=⟨[.nat,.int .i64,sB,sB,sB,sB,sB,.nat],[nS,nC],0,[.cus 10 [.un 1] [0] [],.sr (.ll 0 (.un 1) stC),.len (.un 0) 1,.cmp .leq (.un 0) (zi 32) true,.succ (.un 7) (.un 1)],[⟨[],[],0,[.cus 10 [.un 7] [0] []]⟩]⟩
theorem rCas1_ok{nS nC:Nat}:RuleOk (RTN f N) (rCas1 nS nC):=plain_ok rfl fun F hu hf hp r hr=>by
 obtain rfl:=List.mem_singleton.1 hr
 obtain⟨n,h0,_⟩:=tNat (hu (0,.nat) (by simp[rCas1,numb]))
 obtain⟨i,h1,h2⟩:=hp (.cus 10 [.un 1] [0] []) (by simp[rCas1])
 obtain⟨i',h3,h4⟩:=hp (.sr (.ll 0 (.un 1) stC)) (by simp[rCas1])
 have h5:=lenN (bOf h0) (hp (.len (.un 0) 1) (by simp[rCas1]))
 have h6:=cLe (bOf h0) (hp (.cmp .leq (.un 0) (zi 32) true) (by simp[rCas1]))
 obtain⟨x,h7,h8⟩:=hp (.succ (.un 7) (.un 1)) (by simp[rCas1])
 have e1:=bas_int_inj h1 h3
 subst e1
 rw[h1]at h7;injection h7 with h7;injection h7 with _ h7
 refine⟨i+1,by rw[h8,<-h7];rfl,fun q row hq hrow rows hr=> ?_⟩
 by_cases hqi:q=i
 ·subst hqi
  have h4:(F.R 0)[q]? =some _:=h4
  have hrow:(F.R 0)[q]? =some row:=hrow
  rw[h4]at hrow
  injection hrow with hrow
  rw[<-hrow]at hr
  have hr:some (IV.fs (F.R 1))=some (.fs rows):=hr
  injection hr with hr;injection hr with hr
  rw[<-hr];omega
 ·exact h2 q row (by omega) hrow rows hr
def rCas2(nS:Nat):Rule:=⟨[.nat,.nat],[nS],0,[.cus 10 [.un 0] [0] [],.len (.un 1) 0,.cmp .lss (.un 0) (.un 1) false],[⟨[],[],0,[.cus 9 [] [0] []]⟩]⟩
theorem rCas2_ok{nS:Nat}:RuleOk (RTN f N) (rCas2 nS):=plain_ok rfl fun F hu hf hp r hr=>by
 obtain rfl:=List.mem_singleton.1 hr
 obtain⟨n,h0,_⟩:=tNat (hu (1,.nat) (by simp[rCas2,numb]))
 obtain⟨i,h1,h2⟩:=hp (.cus 10 [.un 0] [0] []) (by simp[rCas2])
 have h3:=lenN (bOf h0) (hp (.len (.un 1) 0) (by simp[rCas2]))
 have h4:=of_decide_eq_false (cLt h1 (bOf h0) (hp (.cmp .lss (.un 0) (.un 1) false) (by simp[rCas2])))
 show ∀row∈F.R 0,∀rows,row[4]? =some (.fs rows)->rows.length<=32
 intro row hrow
 obtain⟨q,hq,rfl⟩:=List.getElem_of_mem hrow
 exact h2 q _ (by omega) (List.getElem?_eq_getElem hq)
def rKey0(nK:Nat):Rule:=⟨[],[nK],0,[],[⟨[],[],0,[.cus 11 [zi 0,zi 0] [0] []]⟩]⟩
theorem rKey0_ok{nK:Nat}:RuleOk (RTN f N) (rKey0 nK):=plain_ok rfl fun F hu hf hp r hr=>by
 obtain rfl:=List.mem_singleton.1 hr
 exact⟨0,0,rfl,rfl,fun r hr=>by simp at hr,rfl,Nat.zero_le _⟩
def keyC:List IV:=[.un 2,.un 3,.un 4]
theorem take_one{α:Type}{l:List α}{n:Nat}{x:α}(h:l[n]? =some x):l.take (n+1)=l.take n++[x]:=by
 rw[List.take_succ,h];rfl
theorem int_inj{x:IV}{n m:Int}(h1:x=.sc (.int .i64 n))(h2:x=.sc (.int .i64 m)):n=m:=by
 rw[h1]at h2;injection h2 with h2;injection h2
theorem cEq{F:Far}{RT:RTab}{a:IV}{c n:Int}{r:Bool}(ha:@bas F a=.sc (.int .i64 n))(h:@Rel.Holds F RT (.cmp .eql a (.sc (.int .i64 c)) r)):decide (n=c)=r:=by
 obtain⟨k,x,y,h1,h2,h3⟩:=h
 rw[ha]at h1;injection h1 with h1;injection h1 with _ h1
 simp only[bas]at h2;injection h2 with h2;injection h2 with _ h2
 subst h1;subst h2
 have h3:some (Value.bool (n==c))=some (Value.bool r):=h3
 injection h3 with h3;injection h3
def rKey1(nK:Nat):Rule:=⟨[.int .i64,.int .i64,sB,sB,.int .i64,.nat],[nK],0,[.cus 11 [.un 0,.un 1] [0] [],.sr (.ll 0 (.un 0) keyC),.cmp .geq (.un 4) (zi 1) true,.cmp .leq (.un 4) (zi 4) true,.cmp .eql (.un 4) (zi 2) false,.succ (.un 5) (.un 0)],[⟨[],[],0,[.cus 11 [.un 5,.un 1] [0] []]⟩]⟩
theorem rKey1_ok{nK:Nat}:RuleOk (RTN f N) (rKey1 nK):=plain_ok rfl fun F hu hf hp r hr=>by
 obtain rfl:=List.mem_singleton.1 hr
 obtain⟨n,m,h1,h2,h3,h4,h5⟩:=hp (.cus 11 [.un 0,.un 1] [0] []) (by simp[rKey1])
 obtain⟨n',g1,g2⟩:=hp (.sr (.ll 0 (.un 0) keyC)) (by simp[rKey1])
 obtain⟨x,g3,g4⟩:=hp (.succ (.un 5) (.un 0)) (by simp[rKey1])
 obtain⟨k,hk⟩:=tInt (hu (4,.int .i64) (by simp[rKey1,numb]))
 have k1:=cGe (bOf hk) (hp (.cmp .geq (.un 4) (zi 1) true) (by simp[rKey1]))
 have k2:=cLe (bOf hk) (hp (.cmp .leq (.un 4) (zi 4) true) (by simp[rKey1]))
 have k3:=of_decide_eq_false (cEq (bOf hk) (hp (.cmp .eql (.un 4) (zi 2) false) (by simp[rKey1])))
 have e1:=bas_int_inj h1 g1
 subst e1
 have e2:=int_inj h1 g3
 have g2:(F.R 0)[n]? =some [.sc (F.U 2),.sc (F.U 3),.sc (F.U 4)]:=g2
 rw[hk]at g2
 refine⟨n+1,m,by rw[g4,<-e2];rfl,h2,?_,?_,h5⟩
 ·show ∀r∈(F.R 0).take (n+1),kind4 r
  rw[take_one g2]
  intro r hr
  rcases List.mem_append.1 hr with hr |hr
  ·exact h3 r hr
  ·rw[List.mem_singleton.1 hr];exact⟨_,_,k,rfl,k1,k2⟩
 ·show cntP ((F.R 0).take (n+1))=m
  have h4:cntP ((F.R 0).take n)=m:=h4
  rw[take_one g2,<-h4]
  simp[cntP,List.filter_append,isP,k3]
def rKey2(nK:Nat):Rule:=⟨[.int .i64,.int .i64,sB,sB,.int .i64,.nat,.nat],[nK],0,[.cus 11 [.un 0,.un 1] [0] [],.sr (.ll 0 (.un 0) keyC),.cmp .eql (.un 4) (zi 2) true,.succ (.un 6) (.un 1),.cmp .eql (.un 6) (zi 1) true,.succ (.un 5) (.un 0)],[⟨[],[],0,[.cus 11 [.un 5,.un 6] [0] []]⟩]⟩
theorem rKey2_ok{nK:Nat}:RuleOk (RTN f N) (rKey2 nK):=plain_ok rfl fun F hu hf hp r hr=>by
 obtain rfl:=List.mem_singleton.1 hr
 obtain⟨n,m,h1,h2,h3,h4,h5⟩:=hp (.cus 11 [.un 0,.un 1] [0] []) (by simp[rKey2])
 obtain⟨n',g1,g2⟩:=hp (.sr (.ll 0 (.un 0) keyC)) (by simp[rKey2])
 obtain⟨x,g3,g4⟩:=hp (.succ (.un 5) (.un 0)) (by simp[rKey2])
 obtain⟨y,g5,g6⟩:=hp (.succ (.un 6) (.un 1)) (by simp[rKey2])
 obtain⟨k,hk⟩:=tInt (hu (4,.int .i64) (by simp[rKey2,numb]))
 obtain⟨c,hc,_⟩:=tNat (hu (6,.nat) (by simp[rKey2,numb]))
 have k3:=of_decide_eq_true (cEq (bOf hk) (hp (.cmp .eql (.un 4) (zi 2) true) (by simp[rKey2])))
 have k4:=of_decide_eq_true (cEq (bOf hc) (hp (.cmp .eql (.un 6) (zi 1) true) (by simp[rKey2])))
 have e1:=bas_int_inj h1 g1
 subst e1
 have e2:=int_inj h1 g3
 have e3:=int_inj h2 g5
 have e4:=int_inj (bOf hc) g6
 have g2:(F.R 0)[n]? =some [.sc (F.U 2),.sc (F.U 3),.sc (F.U 4)]:=g2
 rw[hk]at g2
 refine⟨n+1,m+1,by rw[g4,<-e2];rfl,by rw[g6,<-e3];rfl,?_,?_,by omega⟩
 ·show ∀r∈(F.R 0).take (n+1),kind4 r
  rw[take_one g2]
  intro r hr
  rcases List.mem_append.1 hr with hr |hr
  ·exact h3 r hr
  ·rw[List.mem_singleton.1 hr];exact⟨_,_,k,rfl,by omega,by omega⟩
 ·show cntP ((F.R 0).take (n+1))=m+1
  have h4:cntP ((F.R 0).take n)=m:=h4
  rw[take_one g2,<-h4]
  simp[cntP,List.filter_append,isP,k3]
def rKey3(nK:Nat):Rule:=⟨[.int .i64,.int .i64,.nat],[nK],0,[.cus 11 [.un 0,.un 1] [0] [],.len (.un 2) 0,.cmp .lss (.un 0) (.un 2) false],[⟨[],[],0,[.cus 12 [] [0] []]⟩]⟩
theorem rKey3_ok{nK:Nat}:RuleOk (RTN f N) (rKey3 nK):=plain_ok rfl fun F hu hf hp r hr=>by
 obtain rfl:=List.mem_singleton.1 hr
 obtain⟨n,m,h1,h2,h3,h4,h5⟩:=hp (.cus 11 [.un 0,.un 1] [0] []) (by simp[rKey3])
 obtain⟨c,hc,_⟩:=tNat (hu (2,.nat) (by simp[rKey3,numb]))
 have g1:=lenN (bOf hc) (hp (.len (.un 2) 0) (by simp[rKey3]))
 have g2:=of_decide_eq_false (cLt h1 (bOf hc) (hp (.cmp .lss (.un 0) (.un 2) false) (by simp[rKey3])))
 have e:(F.R 0).take n=F.R 0:=List.take_of_length_le (by omega)
 have h3:∀ r∈(F.R 0).take n,kind4 r:=h3
 have h4:cntP ((F.R 0).take n)=m:=h4
 rw[e]at h3 h4
 exact⟨h3,by show cntP (F.R 0)<=1;omega⟩
def rKey4(nK:Nat):Rule:=⟨[.int .i64,.nat],[nK],0,[.cus 11 [.un 0,.un 1] [0] []],[⟨[.nat],[],0,[.cmp .lss (.un 1) (.un 2) true]⟩]⟩
theorem rKey4_ok{nK:Nat}:RuleOk (RTN f N) (rKey4 nK):=new_ok rfl fun F hu hf hp=>by
 obtain⟨n,m,h1,h2,h3,h4,h5⟩:=hp (.cus 11 [.un 0,.un 1] [0] []) (by simp[rKey4])
 have hsc:scalar (.int .i64 2)=true:=rfl
 have hs:=F.putU_same (k:=2) hsc
 refine⟨F.putU 2 _ hsc,F.putU_agree hsc (Nat.le_refl _),⟨fun e he=> ?_,fun e he=>by simp[numb]at he,fun r hr=> ?_⟩⟩
 ·have he:=numb1 he
  subst he
  show TyV _ _ (.sc ((F.putU 2 _ hsc).U 2))
  rw[hs];exact .nat (n:=2) (by decide)
 ·obtain rfl:=List.mem_singleton.1 hr
  refine⟨.i64,m,2,?_,bOf hs,by simp only[iInt2,iltI_eq,Option.some.injEq,Value.bool.injEq,decide_eq_true_eq];omega⟩
  rw[<-bas_agree (F.putU_agree (c:=⟨2,1,0⟩) hsc (Nat.le_refl _)) (k:=30) (x:=.un 1) rfl];exact h2
def rPos:Rule:=⟨[.nat],[],0,[.cmp .neq (.un 0) (zi 0) true],[⟨[],[],0,[.cmp .geq (.un 0) (zi 1) true]⟩]⟩
theorem rPos_ok:RuleOk (RTN f N) rPos:=plain_ok rfl fun F hu hf hp r hr=>by
 obtain rfl:=List.mem_singleton.1 hr
 obtain⟨n,h0,_⟩:=tNat (hu (0,.nat) (by simp[rPos,numb]))
 obtain⟨k,x,y,h1,h2,h3⟩:=hp (.cmp .neq (.un 0) (zi 0) true) (by simp[rPos])
 rw[bOf h0]at h1;injection h1 with h1;injection h1 with h4 h1
 simp only[bas,zi]at h2;injection h2 with h2;injection h2 with _ h2
 subst h1;subst h2
 refine mkGe (bOf h0) ?_
 have h3:some (Value.bool (!((n:Int)==0)))=some (Value.bool true):=h3
 injection h3 with h3;injection h3 with h3
 rcases Nat.eq_zero_or_pos n with e |e
 ·subst e;cases h3
 ·omega
def rTab0(nT:Nat):Rule:=⟨[],[nT],0,[],[⟨[],[],0,[.cus 13 [zi 0] [0] []]⟩]⟩
theorem rTab0_ok{nT:Nat}:RuleOk (RTN f N) (rTab0 nT):=plain_ok rfl fun F hu hf hp r hr=>by
 obtain rfl:=List.mem_singleton.1 hr
 exact⟨0,rfl,fun r hr=>by simp at hr⟩
def tabC:List IV:=[.un 1,.fu 1,.fu 2,.un 2,.un 3,.fu 3,.un 4]
def rTab1(nT nK nA nB:Nat):Rule:=⟨[.int .i64,sB,.int .i64,sB,.boo,.nat],[nT,nK,nA,nB],0,[.cus 13 [.un 0] [0] [],.sr (.ll 0 (.un 0) tabC),.cus 12 [] [1] [],.succ (.un 5) (.un 0)],[⟨[],[],0,[.cus 13 [.un 5] [0] []]⟩]⟩
theorem rTab1_ok{nT nK nA nB:Nat}:RuleOk (RTN f N) (rTab1 nT nK nA nB):=plain_ok rfl fun F hu hf hp r hr=>by
 obtain rfl:=List.mem_singleton.1 hr
 obtain⟨n,h1,h3⟩:=hp (.cus 13 [.un 0] [0] []) (by simp[rTab1])
 obtain⟨n',g1,g2⟩:=hp (.sr (.ll 0 (.un 0) tabC)) (by simp[rTab1])
 obtain⟨x,g3,g4⟩:=hp (.succ (.un 5) (.un 0)) (by simp[rTab1])
 have hk:keysOk (F.R 1):=hp (.cus 12 [] [1] []) (by simp[rTab1])
 have e1:=bas_int_inj h1 g1
 subst e1
 have e2:=int_inj h1 g3
 refine⟨n+1,by rw[g4,<-e2];rfl,?_⟩
 show ∀r∈(F.R 0).take (n+1),keys4 r
 have g2:(F.R 0)[n]? =some _:=g2
 rw[take_one g2]
 intro r hr
 rcases List.mem_append.1 hr with hr |hr
 ·exact h3 r hr
 ·rw[List.mem_singleton.1 hr];exact⟨F.R 1,rfl,hk⟩
def rTab2(nT:Nat):Rule:=⟨[.int .i64,.nat],[nT],0,[.cus 13 [.un 0] [0] [],.len (.un 1) 0,.cmp .lss (.un 0) (.un 1) false],[⟨[],[],0,[.cus 14 [] [0] []]⟩]⟩
theorem rTab2_ok{nT:Nat}:RuleOk (RTN f N) (rTab2 nT):=plain_ok rfl fun F hu hf hp r hr=>by
 obtain rfl:=List.mem_singleton.1 hr
 obtain⟨n,h1,h3⟩:=hp (.cus 13 [.un 0] [0] []) (by simp[rTab2])
 obtain⟨c,hc,_⟩:=tNat (hu (1,.nat) (by simp[rTab2,numb]))
 have g1:=lenN (bOf hc) (hp (.len (.un 1) 0) (by simp[rTab2]))
 have g2:=of_decide_eq_false (cLt h1 (bOf hc) (hp (.cmp .lss (.un 0) (.un 1) false) (by simp[rTab2])))
 have e:(F.R 0).take n=F.R 0:=List.take_of_length_le (by omega)
 have h3:∀ r∈(F.R 0).take n,keys4 r:=h3
 rw[e]at h3
 exact h3
end
structure RN where
 nG:Nat
 nS:Nat
 nC:Nat
 nK:Nat
 nT:Nat
 nA:Nat
 nB:Nat
def RU(f:Nat->List Ty)(n:RN):List Rule:=[rByt,rSub (f n.nG) n.nG,rLen32 n.nS,rLen32b n.nS,rEm3 n.nS,rUp3 n.nS,rVal n.nS,rIdx n.nS,rLtI n.nS,rLt,rLtS,rInvB,rPop8,rPop6,rInv6,rSS,rMake,rLlB,rLsB,rInv0,rLlI n.nS,rLpI n.nS,rInv5,rLit1 n.nS,rLitS,rLpS,rLlS,rCas n.nS n.nC,rCas0 n.nS,rCas1 n.nS n.nC,rCas2 n.nS,rKey0 n.nK,rKey1 n.nK,rKey2 n.nK,rKey3 n.nK,rKey4 n.nK,rTab0 n.nT,rTab1 n.nT n.nK n.nA n.nB,rTab2 n.nT,rPos]
theorem RU_ok{N:PN}{n:RN}:∀ R∈RU f n,RuleOk (RTN f N) R:=by
 intro R h
 simp only[RU,List.mem_cons,List.not_mem_nil,or_false]at h
 rcases h with rfl |rfl |rfl |rfl |rfl |rfl |rfl |rfl |rfl |rfl |rfl |rfl |rfl |rfl |rfl |rfl |rfl |rfl |rfl |rfl |rfl |rfl |rfl |rfl |rfl |rfl |rfl |rfl |rfl |rfl |rfl |rfl |rfl |rfl |rfl |rfl |rfl |rfl |rfl |rfl
 ·exact rByt_ok
 ·exact rSub_ok _ _
 ·exact rLen32_ok
 ·exact rLen32b_ok
 ·exact rEm3_ok
 ·exact rUp3_ok
 ·exact rVal_ok
 ·exact rIdx_ok
 ·exact rLtI_ok
 ·exact rLt_ok
 ·exact rLtS_ok
 ·exact rInvB_ok
 ·exact rPop8_ok
 ·exact rPop6_ok
 ·exact rInv6_ok
 ·exact rSS_ok
 ·exact rMake_ok
 ·exact rLlB_ok
 ·exact rLsB_ok
 ·exact rInv0_ok
 ·exact rLlI_ok
 ·exact rLpI_ok
 ·exact rInv5_ok
 ·exact rLit1_ok
 ·exact rLitS_ok
 ·exact rLpS_ok
 ·exact rLlS_ok
 ·exact rCas_ok
 ·exact rCas0_ok
 ·exact rCas1_ok
 ·exact rCas2_ok
 ·exact rKey0_ok
 ·exact rKey1_ok
 ·exact rKey2_ok
 ·exact rKey3_ok
 ·exact rKey4_ok
 ·exact rTab0_ok
 ·exact rTab1_ok
 ·exact rTab2_ok
 ·exact rPos_ok
end Go.Eng.Cons
namespace Go.Eng.Cons
open Go.RowKit Go.Eng
def uns(n m:Nat):List IV:=(List.range m).map fun k=>.un (n+k)
def rng(n m:Nat):List Nat:=(List.range m).map fun k=>n+k
def uV(F:Far)(n m:Nat):List IV:=(List.range m).map fun k=>.sc (F.U (n+k))
def fV(F:Far)(n m:Nat):List (List (List IV)):=(List.range m).map fun k=>F.R (n+k)
def relFn(q i:Nat)(C:Con)(a:Alt):Rel:=.cus q (uns 0 C.u.length++(zi i::uns C.u.length a.u.length)) (rng 0 C.f.length++rng C.f.length a.f.length) []
def _root_.Go.Eng.Con.fn(C:Con)(q:Nat):Con:={C with alts:=C.alts.zipIdx.map fun e=>{e.1 with rels:=relFn q e.2 C e.1::e.1.rels}}
def low(b:Nat):Rel->Bool
 | .cus k _ _ _=>lowC b k
 |_=>true
theorem rel_low{f:Nat->List Ty}{N N':PN}{b:Nat}(hN:N.like b N'){F:Far}{r:Rel}(h:low b r=true)(hr:@Rel.Holds F (RTN f N) r):@Rel.Holds F (RTN f N') r:=by
 cases r with
 |cus k us fs ms=>exact crs_low hN h hr
 |_=>exact hr
def Good(P:Program)(RT:RTab)(lg:List (Nat×List IV))(C:Con)(us:List IV)(fs:List (List (List IV)))(r:List IV×List (List (List IV))):Prop:=
 ∃(i:Nat) (hi:i<C.alts.length) (G:Far),uV G 0 C.u.length=us∧fV G 0 C.f.length=fs∧AltOk P RT lg G C C.alts[i]∧r=(zi i::uV G C.u.length C.alts[i].u.length,fV G C.f.length C.alts[i].f.length)
open Classical in
noncomputable def pick(P:Program)(RT:RTab)(lg:List (Nat×List IV))(C:Con)(us:List IV)(fs:List (List (List IV))):List IV×List (List (List IV)):=
 if h:∃ r,Good P RT lg C us fs r then h.choose else default
theorem uV_app{F:Far}{n m:Nat}{x:IV}(hx:@bas F x=x):(uns 0 n++(x::uns n m)).map (@bas F)=uV F 0 n++(x::uV F n m):=by
 simp only[uns,uV,List.map_append,List.map_cons,List.map_map,hx]
 rfl
theorem fV_app{F:Far}{n m:Nat}:(rng 0 n++rng n m).map F.R=fV F 0 n++fV F n m:=by
 simp[rng,fV,Function.comp_def]
theorem uV_eq{F G:Far}{n m:Nat}(h:uV F n m=uV G n m){k:Nat}(hk:k<m):F.U (n+k)=G.U (n+k):=by
 have:=congrArg (fun l=>l[k]?) h
 simp only[uV,List.getElem?_map,List.getElem?_range hk,Option.map_some,Option.some.injEq]at this
 injection this
theorem fV_eq{F G:Far}{n m:Nat}(h:fV F n m=fV G n m){k:Nat}(hk:k<m):F.R (n+k)=G.R (n+k):=by
 have:=congrArg (fun l=>l[k]?) h
 simpa only[fV,List.getElem?_map,List.getElem?_range hk,Option.map_some,Option.some.injEq]using this
theorem fn_ok{P:Program}{f:Nat->List Ty}{N N':PN}{lg:List (Nat×List IV)}{C:Con}{q:Nat}(h:ConOk P (RTN f N) lg C)(hm:C.m=0)(hN:N.like q N')(hpre:C.pre.all (low q)=true)(hal:C.alts.all (fun a=>a.rels.all (low q))=true)
 (hq:Nat.ble 50 q=true) (hq2:Nat.ble 100 q=false) (har:arD q=(C.u.length,C.f.length)) (hd:N'.d q=pick P (RTN f N) lg C):ConOk P (RTN f N') lg (C.fn q):=by
 intro F hu hf hp
 obtain⟨a,ha,G,hG,hk⟩:=h F (fun e he=>tyV_crs (hu e he)) (fun e he=>tyV_crs (hf e he)) (fun r hr=>rel_low hN.symm (List.all_eq_true.1 hpre r hr) (hp r hr))
 obtain⟨i,hi,rfl⟩:=List.getElem_of_mem ha
 have eu:uV G 0 C.u.length=uV F 0 C.u.length:=by
  simp only[uV]
  refine List.map_congr_left fun k hk=> ?_
  rw[hG.U _ (by show 0+k<C.u.length;have:=List.mem_range.1 hk;omega)]
 have ef:fV G 0 C.f.length=fV F 0 C.f.length:=by
  simp only[fV]
  refine List.map_congr_left fun k hk=> ?_
  rw[hG.R _ (by show 0+k<C.f.length;have:=List.mem_range.1 hk;omega)]
 have ex:∃ r,Good P (RTN f N) lg C (uV F 0 C.u.length) (fV F 0 C.f.length) r:=⟨_,i,hi,G,eu,ef,hk,rfl⟩
 have hpick:pick P (RTN f N) lg C (uV F 0 C.u.length) (fV F 0 C.f.length)=ex.choose:=dif_pos ex
 obtain⟨i2,hi2,G2,e1,e2,e3,e4⟩:=ex.choose_spec
 refine⟨{C.alts[i2]with rels:=relFn q i2 C C.alts[i2]::C.alts[i2].rels},?_,G2,?_,⟨fun e he=>tyV_crs (e3.u e he),fun e he=>tyV_crs (e3.f e he),?_,e3.ct⟩⟩
 ·refine List.mem_map.2 ⟨(C.alts[i2],i2),?_,rfl⟩
  exact List.mem_iff_getElem.2 ⟨i2,by simpa using hi2,by simp⟩
 ·refine⟨fun k hk=> ?_,fun k hk=> ?_,fun k hk=> ?_⟩
  ·have:=uV_eq e1 (k:=k) hk
   simpa using this.symm
  ·have:=fV_eq e2 (k:=k) hk
   simpa using this.symm
  ·exfalso;have hk:k<C.m:=hk;omega
 ·intro r hr
  rcases List.mem_cons.1 hr with rfl |hr
  ·show crs N' q ((uns 0 C.u.length++(zi i2::uns C.u.length C.alts[i2].u.length)).map (@bas G2)) ((rng 0 C.f.length++rng C.f.length C.alts[i2].f.length).map G2.R) []
   have hq3:Nat.ble 1000 q=false:=by
    cases h:Nat.ble 1000 q with
    |false=>rfl
    |true=>rw[show Nat.ble 100 q=true from Nat.ble_eq_true_of_le (by have:=Nat.le_of_ble_eq_true h;omega)]at hq2;cases hq2
   unfold crs
   rw[hq,hq3]
   show crt N'.d q _ _
   unfold crt
   rw[hq2]
   show N'.d q _ _=_
   rw[hd,har,uV_app rfl,fV_app]
   have l1:(uV G2 0 C.u.length).length=C.u.length:=by simp[uV]
   have l2:(fV G2 0 C.f.length).length=C.f.length:=by simp[fV]
   have t1:∀ l,(uV G2 0 C.u.length++l).take C.u.length=uV G2 0 C.u.length:=fun l=>by rw[List.take_left' l1]
   have t2:∀ l,(fV G2 0 C.f.length++l).take C.f.length=fV G2 0 C.f.length:=fun l=>by rw[List.take_left' l2]
   have t3:∀ l,(uV G2 0 C.u.length++l).drop C.u.length=l:=fun l=>by rw[List.drop_left' l1]
   have t4:∀ l,(fV G2 0 C.f.length++l).drop C.f.length=l:=fun l=>by rw[List.drop_left' l2]
   simp only[t1,t2,t3,t4]
   rw[e1,e2,hpick,e4]
  ·exact rel_low hN (List.all_eq_true.1 (List.all_eq_true.1 hal _ (List.getElem_mem hi2)) r hr) (e3.rels r hr)
end Go.Eng.Cons
namespace Go.Eng
open Go.RowKit
def frz(l1:HL)(ln:List (IV×Nat))(p:Nat->Bool):Nat->IV->IV->Bool
 |0,_,_=>false
 |k+1,x,y=>(within p 30 x&&iveq x y)||match x,y with
  | .ptr b o,.fp cs o'=>Nat.beq o o'&&(!p b&&(match(hOf l1 .leaf).get b with |some (.row xs)=>all2V (frz l1 ln p k) xs cs |_=>false))
  | .su b n sz,.fu s=> !p b&&(Nat.blt 0 sz&&((match(hOf l1 .leaf).get b with |some (.lu s' sz')=>Nat.beq s s'&&Nat.beq sz sz' |_=>false)&&ln.any fun e=>iveq e.1 n&&Nat.beq e.2 s))
  | .fn f a b,.fn g c d=>iveq (.fn f [] []) (.fn g [] [])&&(all2V (frz l1 ln p k) a c&&all2V (frz l1 ln p k) b d)
  | .iface t x,.iface t' y=>Nat.beq t t'&&frz l1 ln p k x y
  | .agg a,.agg b=>all2V (frz l1 ln p k) a b
  | .tup a,.tup b=>all2V (frz l1 ln p k) a b
  |_,_=>false
theorem frz_ok{F F1:Far}(hl:F.Like F1){l1:HL}{ln:List (IV×Nat)}{p:Nat->Bool}{j j1:J}{w:World}{n1:Nat}{g:Trie (List IV)}(hp:∀ b x,p b=true->j b=some x->j1 b=some x)
 (ho:∀ B,B<w.heap.size->@J.off F j B->@J.off F1 j1 B) (hS:@Sim F j ⟨hOf l1 .leaf,n1,g⟩ w)
 (hfree:∀ b o B d,(hOf l1 .leaf).get b=some o->p b=false->j b=some (B,d)->@J.off F1 j1 B)
 (hln:∀ e∈ln,@bas F e.1=.sc (goInt (F.R e.2).length)):
 ∀(k:Nat) (x y:IV),frz l1 ln p k x y=true->∀ v,@VR F j w x v->@VR F1 j1 w y v:=by
 intro k
 induction k with
 |zero=>intro x y h;cases h
 |succ k ih=>
  intro x y h v hv
  unfold frz at h
  rw[Bool.or_eq_true]at h
  rcases h with h |h
  ·rw[Bool.and_eq_true]at h
   rw[<-iveq_ok h.2]
   exact within_ok hl hp ho 30 _ h.1 _ hv
  ·split at h
   ·rename_i b o cs o'
    simp only[Bool.and_eq_true,Bool.not_eq_true']at h
    obtain⟨h1,h2,h3⟩:=h
    obtain rfl:=Nat.eq_of_beq_eq_true h1
    split at h3
    ·rename_i xs hg
     obtain⟨hlen,hall⟩:=all2V_ok h3
     cases hv with
     |ptr hb=>
      rename_i B d
      obtain⟨C,t,f,g1,g2,g3,g4⟩:=@Sim.live F _ _ _ hS b _ B d hg hb
      refine @VR.fp F1 j1 w cs o B d (fun k=>C.getD (d+k) undef) (hfree _ _ _ _ hg h2 hb) (@Sim.bound F _ _ _ hS _ _ _ hb) (fun k hk=>cell_of_heap g1 (by omega)) fun k hk=> ?_
      exact ih _ _ (hall k (by omega) hk) _ (g4 k (by omega))
    ·cases h3
   ·rename_i b n sz s
    simp only[Bool.and_eq_true,Bool.not_eq_true']at h
    obtain⟨h1,h2,h3,h4⟩:=h
    have hsz:0<sz:=by simpa[Nat.blt_eq]using h2
    obtain⟨e,he,he2⟩:=List.any_eq_true.1 h4
    rw[Bool.and_eq_true]at he2
    obtain⟨e1,e2⟩:=he2
    have e1:=iveq_ok e1
    have e2:=Nat.eq_of_beq_eq_true e2
    have hlen:=hln e he
    rw[e1,e2]at hlen
    split at h3
    ·rename_i s' sz' hg
     rw[Bool.and_eq_true]at h3
     obtain rfl:=Nat.eq_of_beq_eq_true h3.1
     obtain rfl:=Nat.eq_of_beq_eq_true h3.2
     refine @VR.fu F1 _ _ _ _ ?_
     rw[<-hl.R]
     cases hv with
     |su hk hx=>
      rename_i nn
      rw[hlen]at hk
      have hk:IV.sc (goInt (F.R s).length)=.sc (.int .i64 nn):=hk
      injection hk with hk
      have hk:Value.int .i64 ((F.R s).length:Int)=.int .i64 nn:=hk
      injection hk with _ hk
      have hk:nn=(F.R s).length:=by omega
      subst hk
      cases hx with
      |sg hb hl' g1 g2 g3=>
       rename_i B d cap C0 e0 f0
       obtain⟨q1,C,t,f,q2,q3,q4,q5⟩:=@Sim.live F _ _ _ hS b _ B d hg hb
       by_cases hne:F.R s=[]
       ·rw[hne];exact @VR.fs0 F1 _ _ _ _
       ·have q1:∀ r∈F.R s,r.length=sz:=q1
        obtain⟨fl,fg⟩:=flatten_get hsz (F.R s) q1
        have idx:∀ i k,i<(F.R s).length->k<sz->i *sz+k<(F.R s).flatten.length:=fun i k hi hk=>by
         rw[fl]
         have:(i+1) *sz<=(F.R s).length *sz:=Nat.mul_le_mul_right _ hi
         rw[Nat.add_mul,Nat.one_mul]at this
         omega
        refine @VR.fs F1 j1 w (F.R s) B (d+0) sz cap (fun i k=>C.getD (d+(i *sz+k)) undef) hne (hfree _ _ _ _ hg h1 hb) (@Sim.bound F _ _ _ hS _ _ _ hb) q1 hl' (fun i k hi hk=>cell_of_heap q2 (by have:=idx i k hi hk;have q4:d+(F.R s).flatten.length<=C.size:=q4;omega)) fun i k hi hk=> ?_
        have hk':k<sz:=by have:=q1 _ (List.getElem_mem hi);omega
        have hq:=idx i k hi hk'
        obtain⟨a1,a2,a3⟩:=fg (i *sz+k) hq
        have d1:(i *sz+k) / sz=i:=by rw[Nat.mul_comm,Nat.mul_add_div hsz,Nat.div_eq_of_lt hk',Nat.add_zero]
        have d2:(i *sz+k) % sz=k:=by rw[Nat.mul_comm,Nat.mul_add_mod,Nat.mod_eq_of_lt hk']
        have hval:=q5 (i *sz+k) hq
        have hbz:Bz ((F.R s).flatten[i *sz+k]'hq):=lu_bz (F:=F) _ (List.getElem_mem hq)
        have:=bz_ok (F:=F) (F1:=F1) ho hbz hval
        have e:(F.R s).flatten[i *sz+k]'hq=((F.R s)[i])[k]:=by
         rw[a3];simp only[d1,d2]
        rw[e]at this
        exact this
     |su0 hk=>
      rw[hlen]at hk
      have hk:IV.sc (goInt (F.R s).length)=.sc (.int .i64 (0:Nat)):=hk
      injection hk with hk
      have hk:Value.int .i64 ((F.R s).length:Int)=.int .i64 (0:Nat):=hk
      injection hk with _ hk
      have hk:(F.R s).length=0:=by omega
      rw[List.length_eq_zero_iff.1 hk]
      exact @VR.fs0 F1 _ _ _ _
    ·cases h3
   ·simp only[Bool.and_eq_true]at h
    obtain⟨h1,h2,h3⟩:=h
    obtain⟨l2,a2⟩:=all2V_ok h2
    obtain⟨l3,a3⟩:=all2V_ok h3
    have h1:=iveq_ok h1
    injection h1 with h1
    subst h1
    cases hv with
    |fn g1 g2 k1 k2=>exact @VR.fn F1 _ _ _ _ _ _ _ (g1.trans l2.symm) (g2.trans l3.symm) (fun i hi=>ih _ _ (a2 i (by omega) hi) _ (k1 i (by omega))) (fun i hi=>ih _ _ (a3 i (by omega) hi) _ (k2 i (by omega)))
   ·rw[Bool.and_eq_true]at h
    obtain rfl:=Nat.eq_of_beq_eq_true h.1
    cases hv with
    |iface hx=>exact @VR.iface F1 _ _ _ _ _ (ih _ _ h.2 _ hx)
   ·obtain⟨l2,a2⟩:=all2V_ok h
    cases hv with
    |agg g1 g2=>exact @VR.agg F1 _ _ _ _ (g1.trans l2.symm) fun i hi=>ih _ _ (a2 i (by omega) hi) _ (g2 i (by omega))
   ·obtain⟨l2,a2⟩:=all2V_ok h
    cases hv with
    |tup g1 g2=>exact @VR.tup F1 _ _ _ _ (g1.trans l2.symm) fun i hi=>ih _ _ (a2 i (by omega) hi) _ (g2 i (by omega))
   ·cases h
def frzO(l1:HL)(ln:List (IV×Nat))(p:Nat->Bool):IObj->IObj->Bool
 | .row a,.row b=>all2V (frz l1 ln p 30) a b
 | .map es n,.map es' n'=>Nat.beq n n'&&all2E (frz l1 ln p 30) es es'
 | .mu m,.mu m'=>Nat.beq m m'
 | .lu s z,.lu s' z'=>Nat.beq s s'&&Nat.beq z z'
 |_,_=>false
def frzR(l1:HL)(ln:List (IV×Nat))(p:Nat->Bool):IRes->IRes->Bool
 | .ret x,.ret y | .pan x,.pan y=>frz l1 ln p 30 x y
 |_,_=>false
theorem frzO_ok{F F1:Far}(hl:F.Like F1){l1:HL}{ln:List (IV×Nat)}{p:Nat->Bool}{j j1:J}{w:World}{n1:Nat}{g:Trie (List IV)}(hp:∀ b x,p b=true->j b=some x->j1 b=some x)
 (ho:∀ B,B<w.heap.size->@J.off F j B->@J.off F1 j1 B) (hS:@Sim F j ⟨hOf l1 .leaf,n1,g⟩ w)
 (hfree:∀ b o B d,(hOf l1 .leaf).get b=some o->p b=false->j b=some (B,d)->@J.off F1 j1 B)
 (hln:∀ e∈ln,@bas F e.1=.sc (goInt (F.R e.2).length)) {o o':IObj} (h:frzO l1 ln p o o'=true) {B d:Nat} (hr:@OR F j w B d o):@OR F1 j1 w B d o':=by
 unfold frzO at h
 split at h
 ·obtain⟨hlen,ha⟩:=all2V_ok h
  obtain⟨C,t,f,g1,g2,g3,g4⟩:=hr
  exact⟨C,t,f,g1,g2,by omega,fun k hk=>frz_ok hl hp ho hS hfree hln 30 _ _ (ha k (by omega) hk) _ (g4 k (by omega))⟩
 ·rw[Bool.and_eq_true]at h
  obtain rfl:=Nat.eq_of_beq_eq_true h.1
  obtain⟨hlen,ha⟩:=all2E_ok h.2
  obtain⟨hd,es',g1,g2,g3⟩:=hr
  refine⟨hd,es',g1,g2.trans hlen.symm,fun k hk=> ?_⟩
  obtain⟨a1,a2,a3⟩:=ha k (by omega) hk
  obtain⟨b1,b2,b3⟩:=g3 k (by omega)
  exact⟨frz_ok hl hp ho hS hfree hln 30 _ _ a1 _ b1,frz_ok hl hp ho hS hfree hln 30 _ _ a2 _ b2,b3.trans a3⟩
 ·obtain rfl:=Nat.eq_of_beq_eq_true h
  obtain⟨hd,es',g1,g2,g3⟩:=hr
  rw[hl.M]at g1 g2 g3
  exact⟨hd,es',g1,g2,g3⟩
 ·rw[Bool.and_eq_true]at h
  obtain rfl:=Nat.eq_of_beq_eq_true h.1
  obtain rfl:=Nat.eq_of_beq_eq_true h.2
  exact lu_ok hl ho hr
 ·cases h
def frzOk(c:Ct)(ln:List (IV×Nat))(r':IRes)(l1':HL):Bool:=
 ctForm {c with r:=r',l1:=l1'}&&((match c.l0 with | []=>true |_=>false)&&(c.xs.all (within (fun _=>false) 30)&&(frzR c.l1 ln (dom l1') c.r r'&&l1'.all fun e=>match(hOf c.l1 .leaf).get e.1 with |some o=>frzO c.l1 ln (dom l1') o e.2 |none=>false)))
theorem freeze_ok [F0:Far]{P:Program}{lg:List (Nat×List IV)}{c:Ct}(hc:CtOk P lg c)(hlg:lg.all (fun e=>e.2.all (tree 30))=true){ln:List (IV×Nat)}(hln:∀ e∈ln,@bas F0 e.1=.sc (goInt (F0.R e.2).length))
 {r':IRes} {l1':HL} (h:frzOk c ln r' l1'=true):CtOk P lg {c with r:=r',l1:=l1'}:=by
 unfold frzOk at h
 simp only[Bool.and_eq_true]at h
 obtain⟨h1,h2,h3,h4,h5⟩:=h
 have h0:c.l0=[]:=by
  revert h2
  cases c.l0 with
  |nil=>intro _;rfl
  |cons=>intro h;cases h
 refine ctForm_ok h1 fun F hF=> ?_
 obtain⟨hen,hle, -⟩:=@CtOk.run F0 _ _ _ hc F hF
 refine⟨hen,hle,fun j w vs hs hv=> ?_⟩
 have hs:@Sim F j ⟨hOf c.l0 .leaf,c.N,gOf lg⟩ w:=hs
 have hv:@VRs F j w c.xs vs:=hv
 let Y:Nat->Prop:=fun B=>j.has B
 have hl2:F.Like (F.and Y):=F.and_like Y
 have hcall:=@CtOk.run F0 _ _ _ hc (F.and Y) ⟨hF.U.trans hl2.U,hF.R.trans hl2.R,hF.M.trans hl2.M⟩
 have ho0:∀ B,B<w.heap.size->@J.off F j B->@J.off (F.and Y) J.none B:=fun B _ h=>⟨J.none_has B,fun hx=>by
  rcases hx with hx |hx
  ·exact h.2 hx
  ·exact h.1 hx⟩
 have hs0:@Sim (F.and Y) J.none ⟨hOf c.l0 .leaf,c.N,gOf lg⟩ w:=by
  refine @Sim.mk (F.and Y) _ _ _ ?_ ?_ ?_ ?_ ?_ ?_
  ·intro b o B d hb hj;cases hj
  ·intro b1 b2 o1 o2 B d1 d2 k1 k2 hj;cases hj
  ·intro b hb;rfl
  ·intro b B d hj;cases hj
  ·intro g cs hg
   have hm:=gOf_get hg
   have:=@Sim.glob F _ _ _ hs g cs hg
   exact tree_ok hl2 ho0 31 (.fp cs 0) (List.all_eq_true.1 hlg _ hm) _ this
  ·intro B hx
   rcases hx with hx |⟨b,d,hb⟩
   ·exact @Sim.far F _ _ _ hs B hx
   ·exact @Sim.bound F _ _ _ hs b B d hb
 have hv0:@VRs (F.and Y) J.none w c.xs vs:=⟨hv.1,fun k hk=>within_ok hl2 (fun b x hp=>by cases hp) ho0 30 _ (List.all_eq_true.1 h3 _ (List.getElem_mem hk)) _ (hv.2 k hk)⟩
 refine(hcall.2.2 J.none w vs hs0 hv0).mono ?_
 rintro e w' ⟨j0,q1,q2,q3,q4⟩
 have new:∀ b B d,j0 b=some (B,d)->w.heap.size<=B:=fun b B d hb=>by
  rcases Nat.lt_or_ge B w.heap.size with hlt |hge
  ·exact absurd ⟨b,d,hb⟩ (q2.keep B hlt (J.none_has B)).2
  ·exact hge
 let p:Nat->Bool:=dom l1'
 have pin:∀ b,p b=true->∃ o o',(hOf c.l1 .leaf).get b=some o∧(b,o')∈l1'∧frzO c.l1 ln p o o'=true:=fun b hb=>by
  obtain⟨o',hm⟩:=dom_mem hb
  have:=List.all_eq_true.1 h5 _ hm
  split at this
  ·rename_i o hg;exact⟨o,o',hg,hm,this⟩
  ·cases this
 have pge:∀ b,p b=true->c.N<=b:=fun b hb=>by
  obtain⟨o,o',hg, -, -⟩:=pin b hb
  rcases hOf_get hg with hm |⟨_,hx⟩
  ·rcases @CtOk.lt1 F0 _ _ _ hc _ hm with hm |hm
   ·exact hm
   ·rw[h0]at hm;cases hm
  ·simp[Trie.get]at hx
 let j1:J:=fun b=>match p b with |true=>j0 b |false=>j b
 have j1t:∀ b,p b=true->j1 b=j0 b:=fun b h=>by show (match p b with |true=>j0 b |false=>j b)=_;rw[h]
 have j1f:∀ b,p b=false->j1 b=j b:=fun b h=>by show (match p b with |true=>j0 b |false=>j b)=_;rw[h]
 have ho:∀ B,B<w'.heap.size->@J.off (F.and Y) j0 B->@J.off F j1 B:=fun B _ h=>by
  refine⟨?_,fun hx=>h.2 (.inl hx)⟩
  rintro⟨b,d,hb⟩
  cases hp:p b with
  |true=>rw[j1t b hp]at hb;exact h.1 ⟨b,d,hb⟩
  |false=>rw[j1f b hp]at hb;exact h.2 (.inr ⟨b,d,hb⟩)
 have hfree:∀ b o B d,(hOf c.l1 .leaf).get b=some o->p b=false->j0 b=some (B,d)->@J.off F j1 B:=fun b o B d hg hp hb=>by
  have hB:=new b B d hb
  refine⟨?_,fun hx=> ?_⟩
  ·rintro⟨b2,d2,hb2⟩
   cases hp2:p b2 with
   |true=>
    rw[j1t b2 hp2]at hb2
    obtain⟨o2,_,hg2, -, -⟩:=pin b2 hp2
    have:=@Sim.inj (F.and Y) _ _ _ q1 b2 b o2 o B d2 d hg2 hg hb2 hb
    rw[this]at hp2;rw[hp]at hp2;cases hp2
   |false=>
    rw[j1f b2 hp2]at hb2
    have:=@Sim.bound F _ _ _ hs b2 B d2 hb2
    omega
  ·have:=@Sim.far F _ _ _ hs B hx
   omega
 have hp:∀ b x,p b=true->j0 b=some x->j1 b=some x:=fun b x hb hx=>by rw[j1t b hb];exact hx
 have hl3:(F.and Y).Like F:=hl2.symm
 have hln1:∀ e∈ln,@bas (F.and Y) e.1=.sc (goInt ((F.and Y).R e.2).length):=fun e he=>by
  have:=hln e he
  rw[bas_like hF,bas_like hl2,hF.R]at this
  exact this
 refine⟨j1,?_,?_,?_,?_⟩
 ·have q1':=q1
  refine @Sim.mk F _ _ _ ?_ ?_ ?_ ?_ ?_ ?_
  ·intro b o' B d hb hj
   rcases hOf_get (show (hOf l1' .leaf).get b=some o' from hb)with hm |⟨_,hx⟩
   ·have hpb:p b=true:=mem_dom hm
    rw[j1t b hpb]at hj
    have:=List.all_eq_true.1 h5 _ hm
    split at this
    ·rename_i o hg
     exact frzO_ok hl3 hp ho q1 hfree hln1 this (@Sim.live (F.and Y) _ _ _ q1 b o B d hg hj)
    ·cases this
   ·simp[Trie.get]at hx
  ·intro b1 b2 o1 o2 B d1 d2 k1 k2 hb1 hb2
   have pd:∀ {b o},(hOf l1' .leaf).get b=some o->p b=true:=fun{b o} hb=>by
    rcases hOf_get hb with hm |⟨_,hx⟩
    ·exact mem_dom hm
    ·simp[Trie.get]at hx
   have p1:=pd (show (hOf l1' .leaf).get b1=some o1 from k1)
   have p2:=pd (show (hOf l1' .leaf).get b2=some o2 from k2)
   rw[j1t b1 p1]at hb1
   rw[j1t b2 p2]at hb2
   obtain⟨x1,_,g1, -, -⟩:=pin b1 p1
   obtain⟨x2,_,g2, -, -⟩:=pin b2 p2
   exact @Sim.inj (F.and Y) _ _ _ q1 b1 b2 x1 x2 B d1 d2 g1 g2 hb1 hb2
  ·intro b hb
   have hb:c.n1<=b:=hb
   cases hpb:p b with
   |true=>rw[j1t b hpb];exact @Sim.fresh (F.and Y) _ _ _ q1 b hb
   |false=>rw[j1f b hpb];exact @Sim.fresh F _ _ _ hs b (Nat.le_trans hle hb)
  ·intro b B d hb
   cases hpb:p b with
   |true=>rw[j1t b hpb]at hb;exact @Sim.bound (F.and Y) _ _ _ q1 b B d hb
   |false=>rw[j1f b hpb]at hb;exact Nat.lt_of_lt_of_le (@Sim.bound F _ _ _ hs b B d hb) q2.size
  ·intro g cs hg
   have hm:=gOf_get hg
   have:=@Sim.glob (F.and Y) _ _ _ q1 g cs hg
   exact tree_ok hl3 ho 31 (.fp cs 0) (List.all_eq_true.1 hlg _ hm) _ this
  ·intro B hx
   exact Nat.lt_of_lt_of_le (@Sim.far F _ _ _ hs B hx) q2.size
 ·exact{
   os:=q2.os
   tape:=q2.tape
   output:=q2.output
   size:=q2.size
   sub:=fun b x hx=>by
    have:p b=false:=by
     cases hpb:p b with
     |false=>rfl
     |true=>rw[@Sim.fresh F _ _ _ hs b (pge b hpb)]at hx;cases hx
    rw[j1f b this];exact hx
   keep:=fun B hB hn=>by
    refine⟨(q2.keep B hB (J.none_has B)).1,?_⟩
    rintro⟨b,d,hb⟩
    cases hpb:p b with
    |true=>rw[j1t b hpb]at hb;have:=new b B d hb;omega
    |false=>rw[j1f b hpb]at hb;exact hn ⟨b,d,hb⟩
   cells:=q2.cells}
 ·intro b hb
  have hb:b<c.N:=hb
  refine j1f b ?_
  cases hpb:p b with
  |false=>rfl
  |true=>have:=pge b hpb;omega
 ·revert q4 h4
  cases c.r with
  |ret x=>
   cases r' with
   |ret y=>
    intro h4 q4
    cases e with
    |returned v=>exact frz_ok hl3 hp ho q1 hfree hln1 30 _ _ h4 _ q4
    |_=>exact q4
   |pan y=>intro h4;cases h4
  |pan x=>
   cases r' with
   |ret y=>intro h4;cases h4
   |pan y=>
    intro h4 q4
    cases e with
    |panicked ch=>
     obtain⟨v,e1,e2⟩:=q4
     exact⟨v,e1,frz_ok hl3 hp ho q1 hfree hln1 30 _ _ h4 _ e2⟩
    |_=>exact q4
def lens(rels:List Rel):List (IV×Nat):=rels.filterMap fun r=>match r with | .len z s=>some (z,s) |_=>none
def Con.freeze(C:Con)(new:List (IRes×HL)):Con:={C with alts:=C.alts.zipWith (fun a n=>{a with r:=n.1,l1:=n.2}) new}
theorem con_freeze{P:Program}{RT:RTab}{lg:List (Nat×List IV)}{C:Con}(h:ConOk P RT lg C)(hlg:lg.all (fun e=>e.2.all (tree 30))=true){new:List (IRes×HL)}
 (hn:all2 (fun a n=>frzOk (C.ct a) (lens a.rels) n.1 n.2) C.alts new=true):ConOk P RT lg (C.freeze new):=by
 intro F hu hf hp
 obtain⟨a,ha,G,hG,hk⟩:=h F hu hf hp
 obtain⟨k,hk1,rfl⟩:=List.getElem_of_mem ha
 obtain⟨hl,hall⟩:=all2_ok hn
 have hk2:k<new.length:=by omega
 refine⟨{C.alts[k]with r:=new[k].1,l1:=new[k].2},?_,G,hG,?_⟩
 ·exact List.mem_iff_getElem.2 ⟨k,by simp[Con.freeze];omega,by simp[Con.freeze]⟩
 ·refine⟨hk.u,hk.f,hk.rels,?_⟩
  refine @freeze_ok G P lg (C.ct C.alts[k]) hk.ct hlg (lens C.alts[k].rels) (fun e he=> ?_) _ _ (hall k hk1 hk2)
  obtain⟨r,hr,hre⟩:=List.mem_filterMap.1 he
  cases r with
  |len z s=>injection hre with hre;subst hre;exact hk.rels _ hr
  |_=>cases hre
end Go.Eng
namespace Go.Eng.Cons
open Go.RowKit Go.Eng
variable {f:Nat->List Ty}{N:PN}
def rEq0:Rule:=⟨[],[],0,[],[⟨[],[],0,[.cus 15 [zi 0,zi 0] [] []]⟩]⟩
theorem rEq0_ok:RuleOk (RTN f N) rEq0:=plain_ok rfl fun F hu hf hp r hr=>by
 obtain rfl:=List.mem_singleton.1 hr
 exact⟨0,rfl,rfl⟩
def rEq1:Rule:=⟨[.nat,.nat,.nat,.nat],[],0,[.cus 15 [.un 0,.un 1] [] [],.succ (.un 2) (.un 0),.succ (.un 3) (.un 1)],[⟨[],[],0,[.cus 15 [.un 2,.un 3] [] []]⟩]⟩
theorem rEq1_ok:RuleOk (RTN f N) rEq1:=plain_ok rfl fun F hu hf hp r hr=>by
 obtain rfl:=List.mem_singleton.1 hr
 obtain⟨n,h1,h2⟩:=hp (.cus 15 [.un 0,.un 1] [] []) (by simp[rEq1])
 obtain⟨x,g1,g2⟩:=hp (.succ (.un 2) (.un 0)) (by simp[rEq1])
 obtain⟨y,g3,g4⟩:=hp (.succ (.un 3) (.un 1)) (by simp[rEq1])
 have e1:=int_inj h1 g1
 have e2:=int_inj h2 g3
 exact⟨n+1,by rw[g2,e1],by rw[g4,e2]⟩
def rEq2:Rule:=⟨[.nat,.nat,.nat],[],0,[.cus 15 [.un 0,.un 1] [] [],.cmp .lss (.un 1) (.un 2) false,.le (.un 1) (.un 2)],[⟨[],[],0,[.cus 15 [.un 0,.un 2] [] []]⟩]⟩
theorem rEq2_ok:RuleOk (RTN f N) rEq2:=plain_ok rfl fun F hu hf hp r hr=>by
 obtain rfl:=List.mem_singleton.1 hr
 obtain⟨n,h1,h2⟩:=hp (.cus 15 [.un 0,.un 1] [] []) (by simp[rEq2])
 obtain⟨x,y,g1,g2,g3,_⟩:=hp (.le (.un 1) (.un 2)) (by simp[rEq2])
 have g4:=of_decide_eq_false (cLt g1 g2 (hp (.cmp .lss (.un 1) (.un 2) false) (by simp[rEq2])))
 have e1:=int_inj h2 g1
 exact⟨n,h1,by rw[g2,e1];congr 2;omega⟩
def rEmpN:Rule:=⟨[],[],0,[],[⟨[],[101],0,[.sr (.lit 0 []),.len (zi 0) 0,.cus 22 [] [0] []]⟩]⟩
theorem rEmpN_ok:RuleOk (RTN f N) rEmpN:=new_ok rfl fun F hu hf hp=>by
 have hb:∀ r∈([]:List (List IV)),∀y∈r,Bz y:=fun r hr=>by cases hr
 have hs:=F.putR_same (k:=0) hb
 refine⟨F.putR 0 _ hb,F.putR_agree hb (Nat.le_refl _),⟨fun e he=>by simp[numb]at he,fun e he=> ?_,fun r hr=> ?_⟩⟩
 ·have he:=numb1 he
  subst he
  show TyV _ _ (.fs ((F.putR 0 _ hb).R 0))
  rw[hs]
  exact ty_one rt101 (by unfold maxL;simp) fun r hr=>by cases hr
 ·simp only[List.mem_cons,List.not_mem_nil,or_false]at hr
  rcases hr with rfl |rfl |rfl
  ·exact hs
  ·refine mkLen (F:=F.putR 0 _ hb) (n:=0) rfl ?_
   rw[hs];rfl
  ·show ∀r∈(F.putR 0 _ hb).R 0,_
   rw[hs];intro r hr;cases hr
def rLpN(nK:Nat):Rule:=⟨[.nat,.int .i64,.nat,.nat],[101,nK],0,[.len (.un 0) 0,.cus 15 [.un 0,.un 2] [] [],.cmp .lss (.un 2) (.un 3) true,.len (.un 3) 1,.cmp .geq (.un 1) (zi 0) true,.cmp .leq (.un 1) (zi 128) true,.cus 22 [] [0] []],
 [⟨[.nat],[101],0,[.sr (.lp 0 (.un 0) [.un 1] 2 (.un 4)),.len (.un 4) 2,.succ (.un 4) (.un 0),.cus 22 [] [2] []]⟩]⟩
theorem rLpN_ok{nK:Nat}:RuleOk (RTN f N) (rLpN nK):=new_ok rfl fun F hu hf hp=>by
 obtain⟨k,h0,_⟩:=tNat (hu (0,.nat) (by simp[rLpN,numb]))
 obtain⟨x,h1⟩:=tInt (hu (1,.int .i64) (by simp[rLpN,numb]))
 obtain⟨i,h3,_⟩:=tNat (hu (2,.nat) (by simp[rLpN,numb]))
 obtain⟨n,h4,_⟩:=tNat (hu (3,.nat) (by simp[rLpN,numb]))
 have g1:=lenN (bOf h0) (hp (.len (.un 0) 0) (by simp[rLpN]))
 obtain⟨q,g2,g3⟩:=hp (.cus 15 [.un 0,.un 2] [] []) (by simp[rLpN])
 have e1:=iOf g2 h0
 have e2:=iOf g3 h3
 have g4:=of_decide_eq_true (cLt (bOf h3) (bOf h4) (hp (.cmp .lss (.un 2) (.un 3) true) (by simp[rLpN])))
 have g5:=lenN (bOf h4) (hp (.len (.un 3) 1) (by simp[rLpN]))
 have k1:=cGe (bOf h1) (hp (.cmp .geq (.un 1) (zi 0) true) (by simp[rLpN]))
 have k2:=cLe (bOf h1) (hp (.cmp .leq (.un 1) (zi 128) true) (by simp[rLpN]))
 have g22:∀ r∈F.R 0,∃n:Int,r=[.sc (.int .i64 n)]∧0<=n∧n<=128:=hp (.cus 22 [] [0] []) (by simp[rLpN])
 have hK:(F.R 1).length<=maxL:=by
  have:=hf (1,nK) (by simp[rLpN,numb])
  cases this with |rows h _ _=>exact h
 obtain⟨g6,g7⟩:=one_ty rt101 (hf (0,101) (by simp[rLpN,numb]))
 let rows:=(F.R 0).take k++[[IV.sc (.int .i64 x)]]
 have hty:∀ r∈rows,∃x,r=[x]∧TyV (RTN f N) (.int .i64) x:=fun r hr=>by
  rcases List.mem_append.1 hr with hr |hr
  ·exact g7 r (List.mem_of_mem_take hr)
  ·exact⟨_,by simpa using hr,.int⟩
 have hb:∀ r∈rows,∀y∈r,Bz y:=fun r hr x hx=>by
  obtain⟨y,rfl,hy⟩:=hty r hr
  have:x=y:=by simpa using hx
  subst this;exact bz_ty hy
 have hsc:scalar (.int .i64 ((k+1:Nat):Int))=true:=rfl
 let F1:=F.putU 4 _ hsc
 have hs1:(F1.putR 2 rows hb).U 4=.int .i64 ((k+1:Nat):Int):=F.putU_same hsc
 have hs:=F1.putR_same (k:=2) hb
 have hlen:rows.length=k+1:=by simp[rows];omega
 have hmax:maxL=2 ^ 32:=by decide
 refine⟨F1.putR 2 rows hb,(F.putU_agree hsc (Nat.le_refl _)).trans (F1.putR_agree hb (Nat.le_refl _)),⟨fun e he=> ?_,fun e he=> ?_,fun r hr=> ?_⟩⟩
 ·have he:=numb1 he
  subst he
  show TyV _ _ (.sc ((F1.putR 2 rows hb).U 4))
  rw[hs1];exact .nat (by have:maxL<=maxI:=maxL_le;omega)
 ·have he:=numb1 he
  subst he
  show TyV _ _ (.fs ((F1.putR 2 rows hb).R 2))
  rw[hs]
  exact ty_one rt101 (by rw[hlen];omega) hty
 ·simp only[List.mem_cons,List.not_mem_nil,or_false]at hr
  rcases hr with rfl |rfl |rfl |rfl
  ·refine⟨k,bOf h0,by show k<=(F.R 0).length;omega,by omega,?_,bOf (F:=F1.putR 2 rows hb) hs1⟩
   rw[hs]
   show rows=(F.R 0).take k++[[IV.sc (F.U 1)]]
   rw[h1]
  ·exact mkLen (F:=F1.putR 2 rows hb) (n:=k+1) (bOf (F:=F1.putR 2 rows hb) hs1) (by rw[hs,hlen])
  ·exact⟨k,bOf h0,by rw[bOf (F:=F1.putR 2 rows hb) hs1];rfl⟩
  ·show ∀r∈(F1.putR 2 rows hb).R 2,_
   rw[hs]
   intro r hr
   rcases List.mem_append.1 hr with hr |hr
   ·exact g22 r (List.mem_of_mem_take hr)
   ·exact⟨x,by simpa using hr,k1,k2⟩
def rWb:Rule:=⟨[.int .i64,.int .i64],[101],0,[.cus 22 [] [0] [],.sr (.ll 0 (.un 0) [.un 1])],[⟨[],[],0,[.cmp .geq (.un 1) (zi 0) true,.cmp .leq (.un 1) (zi 128) true]⟩]⟩
theorem rWb_ok:RuleOk (RTN f N) rWb:=plain_ok rfl fun F hu hf hp r hr=>by
 obtain⟨x,h1⟩:=tInt (hu (1,.int .i64) (by simp[rWb,numb]))
 have g22:∀ r∈F.R 0,∃n:Int,r=[.sc (.int .i64 n)]∧0<=n∧n<=128:=hp (.cus 22 [] [0] []) (by simp[rWb])
 obtain⟨n,g1,g2⟩:=hp (.sr (.ll 0 (.un 0) [.un 1])) (by simp[rWb])
 have g2:(F.R 0)[n]? =some [IV.sc (F.U 1)]:=g2
 obtain⟨m,e1,e2,e3⟩:=g22 _ (List.mem_of_getElem? g2)
 rw[h1]at e1
 have e1:x=m:=by injection e1 with e1 _;injection e1 with e1;injection e1
 subst e1
 simp only[List.mem_cons,List.not_mem_nil,or_false]at hr
 rcases hr with rfl |rfl
 ·exact mkGe (bOf h1) e2
 ·exact mkLe (bOf h1) e3
def six:List Nat:=[0,1,2,3,4,5]
def tbC:List IV:=[.un 2,.fu 6,.fu 7,.un 3,.un 4,.fu 8,.un 5]
def tbU:List Ty:=[.str 1048576,.int .i64,.str 1048576,.int .i64,.str 1048576,.boo]
def r50:Rel:=.cus 50 [.un 0,zi 0,.un 1] six []
theorem c50{F:Far}{a k:IV}(h:@Rel.Holds F (RTN f N) (.cus 50 [a,zi 0,k] six [])):N.d 50 [@bas F a] (six.map F.R)=([zi 0,@bas F k],[]):=h
theorem at50{F:Far}{a k:IV}(h:@Rel.Holds F (RTN f N) (.cus 50 [a,zi 0,k] six [])){n:Int}(hk:@bas F k=.sc (.int .i64 n)):N.d 50 [@bas F a] (six.map F.R)=([.sc (.int .i64 0),.sc (.int .i64 n)],[]):=by
 rw[c50 h,hk];rfl
theorem d50{n m:Int}{x:List IV×List (List (List IV))}(h1:x=([.sc (.int .i64 0),.sc (.int .i64 n)],[]))(h2:x=([.sc (.int .i64 0),.sc (.int .i64 m)],[])):n=m:=by
 rw[h1]at h2
 injection h2 with h2 _;injection h2 with _ h2;injection h2 with h2 _;injection h2 with h2;injection h2
def rT30(S:List Nat)(nK nA nB:Nat):Rule:=⟨tbU++[.nat],S++[nK,nA,nB],0,[r50,.sr (.ll 4 (.un 1) tbC),.len (.un 6) 6],[⟨[],[],0,[.cus 30 [.un 0,.un 6] six []]⟩]⟩
theorem rT30_ok{S:List Nat}{nK nA nB:Nat}:RuleOk (RTN f N) (rT30 S nK nA nB):=plain_ok rfl fun F hu hf hp r hr=>by
 obtain rfl:=List.mem_singleton.1 hr
 obtain⟨n,h1,h2⟩:=hp (.sr (.ll 4 (.un 1) tbC)) (by simp[rT30])
 have h3:=at50 (hp r50 (by simp[rT30])) h1
 have h2:(F.R 4)[n]? =some _:=h2
 exact⟨n,F.R 4,_,F.R 6,h3,rfl,h2,rfl,hp (.len (.un 6) 6) (by simp[rT30])⟩
def rE30(S:List Nat):Rule:=⟨[.str 1048576,.nat,.nat],S,0,[.cus 15 [.un 1,.un 2] [] [],.cus 30 [.un 0,.un 2] six []],[⟨[],[],0,[.cus 30 [.un 0,.un 1] six []]⟩]⟩
theorem rE30_ok{S:List Nat}:RuleOk (RTN f N) (rE30 S):=plain_ok rfl fun F hu hf hp r hr=>by
 obtain rfl:=List.mem_singleton.1 hr
 obtain⟨n,h1,h2⟩:=hp (.cus 15 [.un 1,.un 2] [] []) (by simp[rE30])
 obtain⟨k,t,row,l,g1,g2,g3,g4,g5⟩:=hp (.cus 30 [.un 0,.un 2] six []) (by simp[rE30])
 have e:=int_inj h2 g5
 exact⟨k,t,row,l,g1,g2,g3,g4,by rw[h1,e]⟩
def rT31(S:List Nat):Rule:=⟨[.str 1048576,.int .i64],S,0,[r50,.cmp .lss (.un 1) (zi 0) true],[⟨[],[],0,[.cus 31 [.un 0] six []]⟩]⟩
theorem rT31_ok{S:List Nat}:RuleOk (RTN f N) (rT31 S):=plain_ok rfl fun F hu hf hp r hr=>by
 obtain rfl:=List.mem_singleton.1 hr
 obtain⟨k,x,y,h1,h2,h3⟩:=hp (.cmp .lss (.un 1) (zi 0) true) (by simp[rT31])
 have hk:@bas F (zi 0)=.sc (.int .i64 0):=rfl
 rw[hk]at h2;injection h2 with h2;injection h2 with h4 h5
 subst h4;subst h5
 have h6:=at50 (hp r50 (by simp[rT31])) h1
 refine⟨x,h6,?_⟩
 simp only[iInt2,iltI_eq,Option.some.injEq,Value.bool.injEq]at h3
 exact of_decide_eq_true h3
def rT32(S:List Nat)(nK nA nB:Nat):Rule:=⟨tbU++[.nat],S++[nK,nA,nB],0,[r50,.sr (.ll 4 (.un 1) tbC),.cus 30 [.un 0,.un 6] six []],[⟨[],[],0,[.len (.un 6) 6]⟩]⟩
theorem rT32_ok{S:List Nat}{nK nA nB:Nat}:RuleOk (RTN f N) (rT32 S nK nA nB):=plain_ok rfl fun F hu hf hp r hr=>by
 obtain rfl:=List.mem_singleton.1 hr
 obtain⟨n,h1,h2⟩:=hp (.sr (.ll 4 (.un 1) tbC)) (by simp[rT32])
 have h3:=at50 (hp r50 (by simp[rT32])) h1
 have h2:(F.R 4)[n]? =some _:=h2
 obtain⟨k,t,row,l,g1,g2,g3,g4,g5⟩:=hp (.cus 30 [.un 0,.un 6] six []) (by simp[rT32])
 have g1:N.d 50 [@bas F (.un 0)] (six.map F.R)=_:=g1
 have e:=d50 h3 g1
 have e:n=k:=by omega
 subst e
 have g2:some (F.R 4)=some t:=g2
 injection g2 with g2
 subst g2
 rw[h2]at g3
 injection g3 with g3
 subst g3
 have g4:some (IV.fs (F.R 6))=some (.fs l):=g4
 injection g4 with g4;injection g4 with g4
 show @bas F (.un 6)=_
 rw[g5,<-g4];rfl
def rT33(S:List Nat):Rule:=⟨[.str 1048576,.int .i64],S,0,[r50,.cmp .geq (.un 1) (zi 0) true,.cus 31 [.un 0] six []],[]⟩
theorem rT33_ok{S:List Nat}:RuleOk (RTN f N) (rT33 S):=by
 intro F hu hf hp
 exfalso
 obtain⟨x,h1⟩:=tInt (hu (1,.int .i64) (by simp[rT33,numb]))
 have h3:=at50 (hp r50 (by simp[rT33])) (bOf h1)
 have h2:=cGe (bOf h1) (hp (.cmp .geq (.un 1) (zi 0) true) (by simp[rT33]))
 obtain⟨k,g1,g2⟩:=hp (.cus 31 [.un 0] six []) (by simp[rT33])
 have g1:N.d 50 [@bas F (.un 0)] (six.map F.R)=_:=g1
 have e:=d50 h3 g1
 omega
def rLenT(a b:Nat):Rule:=⟨[.nat,.nat],[a,b],0,[.len (.un 0) 0,.len (.un 1) 1,.len (.un 0) 1],[⟨[],[],0,[.len (.un 1) 0]⟩]⟩
theorem rLenT_ok{a b:Nat}:RuleOk (RTN f N) (rLenT a b):=plain_ok rfl fun F hu hf hp r hr=>by
 obtain rfl:=List.mem_singleton.1 hr
 have h1:@bas F (.un 0)=.sc (goInt (F.R 0).length):=hp (.len (.un 0) 0) (by simp[rLenT])
 have h2:@bas F (.un 0)=.sc (goInt (F.R 1).length):=hp (.len (.un 0) 1) (by simp[rLenT])
 have h3:@bas F (.un 1)=.sc (goInt (F.R 1).length):=hp (.len (.un 1) 1) (by simp[rLenT])
 show @bas F (.un 1)=.sc (goInt (F.R 0).length)
 rw[h3,<-h2,h1]
def RW(S:List Nat)(n:RN):List Rule:=[rEq0,rEq1,rEq2,rEmpN,rLpN n.nK,rWb,rT30 S n.nK n.nA n.nB,rE30 S,rT31 S,rT32 S n.nK n.nA n.nB,rT33 S,rLenT 101 n.nK]
theorem RW_ok{S:List Nat}{n:RN}:∀ R∈RW S n,RuleOk (RTN f N) R:=by
 intro R h
 simp only[RW,List.mem_cons,List.not_mem_nil,or_false]at h
 rcases h with rfl |rfl |rfl |rfl |rfl |rfl |rfl |rfl |rfl |rfl |rfl |rfl
 ·exact rEq0_ok
 ·exact rEq1_ok
 ·exact rEq2_ok
 ·exact rEmpN_ok
 ·exact rLpN_ok
 ·exact rWb_ok
 ·exact rT30_ok
 ·exact rE30_ok
 ·exact rT31_ok
 ·exact rT32_ok
 ·exact rT33_ok
 ·exact rLenT_ok
def RUW(f:Nat->List Ty)(n:RN)(S:List Nat):List Rule:=RU f n++RW S n
theorem RUW_ok{n:RN}{S:List Nat}:∀ R∈RUW f n S,RuleOk (RTN f N) R:=fun R h=>(List.mem_append.1 h).elim (RU_ok R) (RW_ok R)
end Go.Eng.Cons
namespace Go.Eng.Cons
open Go.RowKit Go.Eng
variable {f:Nat->List Ty}{N:PN}
theorem rt104:(RTN f N) 104=[.int .i64,.int .i64,.any,.any,.any,.any]:=rfl
theorem shp_rs{F:Far}(k a w h l:Nat):(shp k (.un a) (.un w) (.un h) (.un l)).map (@rs F 20)=shp k (.sc (F.U a)) (.sc (F.U w)) (.sc (F.U h)) (.sc (F.U l)):=by
 unfold shp;split<;>rfl
theorem shp_rsk{F:Far}(k w h l:Nat)(n:Int):(shp k (i64 n) (.un w) (.un h) (.un l)).map (@rs F 20)=shp k (i64 n) (.sc (F.U w)) (.sc (F.U h)) (.sc (F.U l)):=by
 unfold shp;split<;>rfl
theorem shp_len(k:Nat)(a w h l:IV):(shp k a w h l).length=6:=by
 unfold shp;split<;>rfl
theorem shp0(k:Nat)(a w h l:IV):(shp k a w h l)[0]? =some a:=by
 unfold shp;split<;>rfl
theorem shp1(k:Nat)(a w h l:IV):(shp k a w h l)[1]? =some w:=by
 unfold shp;split<;>rfl
theorem bz_one{l:List IV}(h:∀ x∈l,Bz x)(g o:Nat):Bz (.fn (.func g) [] [.fp l o]):=
 .fn (fun x hx=>by cases hx) (fun x hx=>by rw[List.mem_singleton.1 hx];exact .fp h)
theorem bz_fn0(g:Nat):Bz (.fn (.func g) [] []):=.fn (fun x hx=>by cases hx) (fun x hx=>by cases hx)
theorem shp_bz(k:Nat){a w h l:Value}:∀ x∈shp k (.sc a) (.sc w) (.sc h) (.sc l),Bz x:=by
 have hp:∀ u v:Value,∀x∈[IV.sc u,IV.sc v],Bz x:=fun u v x hx=>by
  simp only[List.mem_cons,List.not_mem_nil,or_false]at hx
  rcases hx with rfl |rfl<;>exact .sc
 have h1:∀ u:Value,∀x∈[IV.sc u],Bz x:=fun u x hx=>by rw[List.mem_singleton.1 hx];exact .sc
 have h3:∀ u:Value,∀x∈[fnv 105 [.fp [IV.sc h,IV.sc l] 0]],Bz x:=fun u x hx=>by rw[List.mem_singleton.1 hx];exact bz_one (hp _ _) _ _
 intro x hx
 unfold shp at hx
 split at hx<;>simp only[List.mem_cons,List.not_mem_nil,or_false]at hx<;>rcases hx with rfl |rfl |rfl |rfl |rfl |rfl<;>first
  |exact .sc
  |exact bz_fn0 _
  |exact bz_one (h1 _) _ _
  |exact bz_one (h3 h) _ _
  |(refine .fn (fun x hx=>by cases hx) fun x hx=> ?_
    simp only[List.mem_cons,List.not_mem_nil,or_false]at hx
    rcases hx with rfl |rfl
    ·exact .fp (h1 _)
    ·exact .fp (hp _ _))
theorem shp_ty(k:Nat){n w h l:Int}:∀ i (hi:i<((RTN f N) 104).length)(hi':i<(shp k (i64 n) (i64 w) (u64 h) (u64 l)).length),TyV (RTN f N) ((RTN f N) 104)[i] (shp k (i64 n) (i64 w) (u64 h) (u64 l))[i]:=by
 intro i hi hi'
 have hb:=shp_bz k (a:=.int .i64 n) (w:=.int .i64 w) (h:=.int .u64 h) (l:=.int .u64 l) _ (List.getElem_mem hi')
 match i,hi,hi',hb with
 |0,_,hi',_=>
  have:(shp k (i64 n) (i64 w) (u64 h) (u64 l))[0]=i64 n:=by unfold shp;split<;>rfl
  rw[this];exact .int
 |1,_,hi',_=>
  have:(shp k (i64 n) (i64 w) (u64 h) (u64 l))[1]=i64 w:=by unfold shp;split<;>rfl
  rw[this];exact .int
 |2,_,_,hb |3,_,_,hb |4,_,_,hb |5,_,_,hb=>exact .any hb
 |i+6,hi,_,_=>exact absurd hi (by rw[rt104];simp)
def rEmpP:Rule:=⟨[],[],0,[],[⟨[],[104],0,[.sr (.lit 0 []),.len (zi 0) 0]⟩]⟩
theorem rEmpP_ok:RuleOk (RTN f N) rEmpP:=new_ok rfl fun F hu hf hp=>by
 have hb:∀ r∈([]:List (List IV)),∀y∈r,Bz y:=fun r hr=>by cases hr
 have hs:=F.putR_same (k:=0) hb
 refine⟨F.putR 0 _ hb,F.putR_agree hb (Nat.le_refl _),⟨fun e he=>by simp[numb]at he,fun e he=> ?_,fun r hr=> ?_⟩⟩
 ·have he:=numb1 he
  subst he
  show TyV _ _ (.fs ((F.putR 0 _ hb).R 0))
  rw[hs]
  exact .rows (by unfold maxL;simp) (fun r hr=>by cases hr) fun r hr=>by cases hr
 ·simp only[List.mem_cons,List.not_mem_nil,or_false]at hr
  rcases hr with rfl |rfl
  ·exact hs
  ·refine mkLen (F:=F.putR 0 _ hb) (n:=0) rfl ?_
   rw[hs];rfl
def r116e(nK:Nat):Rule:=⟨[],[104,nK],0,[.sr (.lit 0 [])],[⟨[],[],0,[.cus 116 [] [0,1] []]⟩]⟩
theorem r116e_ok{nK:Nat}:RuleOk (RTN f N) (r116e nK):=plain_ok rfl fun F hu hf hp r hr=>by
 obtain rfl:=List.mem_singleton.1 hr
 have h1:F.R 0=[]:=hp (.sr (.lit 0 [])) (by simp[r116e])
 show upTo (F.R 0) (F.R 1)
 rw[h1]
 exact⟨Nat.zero_le _,fun q pr kr h=>by simp at h⟩
def rPart(nK k:Nat):Rule:=⟨[.nat,.nat,.nat,.int .i64,.int .i64,.int .u64,.int .u64,sB,sB],[104,nK],0,
 [.len (.un 0) 0,.cus 116 [] [0,1] [],.cus 15 [.un 0,.un 1] [] [],.cmp .lss (.un 1) (.un 2) true,.len (.un 2) 1,.sr (.ll 1 (.un 1) [.un 7,.un 8,.un 3]),.cmp .eql (.un 3) (zi k) true,.cmp .geq (.un 4) (zi 0) true,.cmp .leq (.un 4) (zi 128) true],
 [⟨[.nat],[104],0,[.sr (.lp 0 (.un 0) (shp k (.un 3) (.un 4) (.un 5) (.un 6)) 2 (.un 9)),.len (.un 9) 2,.succ (.un 9) (.un 0),.cus 116 [] [2,1] []]⟩]⟩
theorem rPart_ok{nK k:Nat}(hk1:1<=k)(hk4:k<=4):RuleOk (RTN f N) (rPart nK k):=new_ok rfl fun F hu hf hp=>by
 obtain⟨n,h0,_⟩:=tNat (hu (0,.nat) (by simp[rPart,numb]))
 obtain⟨i,h1,_⟩:=tNat (hu (1,.nat) (by simp[rPart,numb]))
 obtain⟨m,h2,_⟩:=tNat (hu (2,.nat) (by simp[rPart,numb]))
 obtain⟨kd,h3⟩:=tInt (hu (3,.int .i64) (by simp[rPart,numb]))
 obtain⟨w,h4⟩:=tInt (hu (4,.int .i64) (by simp[rPart,numb]))
 obtain⟨hi,h5⟩:=tInt (hu (5,.int .u64) (by simp[rPart,numb]))
 obtain⟨lo,h6⟩:=tInt (hu (6,.int .u64) (by simp[rPart,numb]))
 have g1:=lenN (bOf h0) (hp (.len (.un 0) 0) (by simp[rPart]))
 have g2:upTo (F.R 0) (F.R 1):=hp (.cus 116 [] [0,1] []) (by simp[rPart])
 obtain⟨q,g3,g4⟩:=hp (.cus 15 [.un 0,.un 1] [] []) (by simp[rPart])
 have e1:=iOf g3 h0
 have e2:=iOf g4 h1
 have g5:=of_decide_eq_true (cLt (bOf h1) (bOf h2) (hp (.cmp .lss (.un 1) (.un 2) true) (by simp[rPart])))
 have g6:=lenN (bOf h2) (hp (.len (.un 2) 1) (by simp[rPart]))
 obtain⟨j,g7,g8⟩:=hp (.sr (.ll 1 (.un 1) [.un 7,.un 8,.un 3])) (by simp[rPart])
 have e3:=nOf g7 h1
 have g8:(F.R 1)[j]? =some [.sc (F.U 7),.sc (F.U 8),.sc (F.U 3)]:=g8
 have g9:=of_decide_eq_true (cEq (bOf h3) (hp (.cmp .eql (.un 3) (zi k) true) (by simp[rPart])))
 have k1:=cGe (bOf h4) (hp (.cmp .geq (.un 4) (zi 0) true) (by simp[rPart]))
 have k2:=cLe (bOf h4) (hp (.cmp .leq (.un 4) (zi 128) true) (by simp[rPart]))
 have hK:(F.R 1).length<=maxL:=by
  have:=hf (1,nK) (by simp[rPart,numb])
  cases this with |rows h _ _=>exact h
 have hP:=hf (0,104) (by simp[rPart,numb])
 let row:=shp k (i64 kd) (i64 w) (u64 hi) (u64 lo)
 let rows:=(F.R 0).take n++[row]
 have hty:TyV (RTN f N) (.rows 104) (.fs rows):=by
  have hlen:rows.length=n+1:=by simp[rows];omega
  cases hP with
  |rows q1 q2 q3=>
   refine .rows (by rw[hlen];omega) (fun r hr=> ?_) fun r hr=> ?_
   ·rcases List.mem_append.1 hr with hr |hr
    ·exact q2 r (List.mem_of_mem_take hr)
    ·rw[List.mem_singleton.1 hr];exact shp_len _ _ _ _ _
   ·rcases List.mem_append.1 hr with hr |hr
    ·exact q3 r (List.mem_of_mem_take hr)
    ·rw[List.mem_singleton.1 hr];exact shp_ty k
 have hb:=bz_rows (bz_ty hty)
 have hsc:scalar (.int .i64 ((n+1:Nat):Int))=true:=rfl
 let F1:=F.putU 9 _ hsc
 have hs1:(F1.putR 2 rows hb).U 9=.int .i64 ((n+1:Nat):Int):=F.putU_same hsc
 have hs:=F1.putR_same (k:=2) hb
 have hlen:rows.length=n+1:=by simp[rows];omega
 have hmax:maxL=2 ^ 32:=by decide
 have hml:maxL<=maxI:=maxL_le
 have hold:∀ k,k≠9->(F1.putR 2 rows hb).U k=F.U k:=fun k hk=>if_neg hk
 refine⟨F1.putR 2 rows hb,(F.putU_agree hsc (Nat.le_refl _)).trans (F1.putR_agree hb (Nat.le_refl _)),⟨fun e he=> ?_,fun e he=> ?_,fun r hr=> ?_⟩⟩
 ·have he:=numb1 he
  subst he
  show TyV _ _ (.sc ((F1.putR 2 rows hb).U 9))
  rw[hs1];exact .nat (by omega)
 ·have he:=numb1 he
  subst he
  show TyV _ _ (.fs ((F1.putR 2 rows hb).R 2))
  rw[hs];exact hty
 ·simp only[List.mem_cons,List.not_mem_nil,or_false]at hr
  rcases hr with rfl |rfl |rfl |rfl
  ·refine⟨n,bOf h0,by show n<=(F.R 0).length;omega,by omega,?_,bOf (F:=F1.putR 2 rows hb) hs1⟩
   rw[hs,shp_rs,hold 3 (by decide),hold 4 (by decide),hold 5 (by decide),hold 6 (by decide),h3,h4,h5,h6]
   rfl
  ·exact mkLen (F:=F1.putR 2 rows hb) (n:=n+1) (bOf (F:=F1.putR 2 rows hb) hs1) (by rw[hs,hlen])
  ·exact⟨n,bOf h0,by rw[bOf (F:=F1.putR 2 rows hb) hs1];rfl⟩
  ·show upTo ((F1.putR 2 rows hb).R 2) (F.R 1)
   rw[hs]
   refine⟨by rw[hlen];omega,fun q pr kr hq hr=> ?_⟩
   by_cases hqn:q<n
   ·rw[List.getElem?_append_left (by simp;omega),List.getElem?_take_of_lt hqn]at hq
    exact g2.2 q pr kr hq hr
   ·have:q=n:=by
     have:=(List.getElem?_eq_some_iff.1 hq).1
     omega
    subst this
    rw[List.getElem?_append_right (by simp;omega)]at hq
    have hq:some row=some pr:=by
     have e:q - ((F.R 0).take q).length=0:=by simp;omega
     rw[e]at hq;exact hq
    injection hq with hq
    have e:q=j:=by omega
    subst e
    rw[g8]at hr
    injection hr with hr
    subst hr;subst hq
    exact⟨k,w,hi,lo,hk1,hk4,k1,k2,by rw[h3];exact congrArg some g9,by show shp k (i64 kd) _ _ _=_;rw[g9]⟩
def r117(nK:Nat):Rule:=⟨[.nat,.nat],[104,nK],0,[.cus 116 [] [0,1] [],.len (.un 0) 0,.len (.un 1) 1,.cus 15 [.un 0,.un 1] [] []],[⟨[],[],0,[.cus 117 [] [0,1] []]⟩]⟩
theorem r117_ok{nK:Nat}:RuleOk (RTN f N) (r117 nK):=plain_ok rfl fun F hu hf hp r hr=>by
 obtain rfl:=List.mem_singleton.1 hr
 obtain⟨n,h0,_⟩:=tNat (hu (0,.nat) (by simp[r117,numb]))
 obtain⟨m,h1,_⟩:=tNat (hu (1,.nat) (by simp[r117,numb]))
 have g1:=lenN (bOf h0) (hp (.len (.un 0) 0) (by simp[r117]))
 have g2:=lenN (bOf h1) (hp (.len (.un 1) 1) (by simp[r117]))
 obtain⟨q,g3,g4⟩:=hp (.cus 15 [.un 0,.un 1] [] []) (by simp[r117])
 have e1:=iOf g3 h0
 have e2:=iOf g4 h1
 exact⟨by show (F.R 0).length=(F.R 1).length;omega,hp (.cus 116 [] [0,1] []) (by simp[r117])⟩
def r118(nK:Nat):Rule:=⟨[],[104,nK],0,[.cus 117 [] [0,1] []],[⟨[],[],0,[.cus 118 [] [0] []]⟩]⟩
theorem r118_ok{nK:Nat}:RuleOk (RTN f N) (r118 nK):=plain_ok rfl fun F hu hf hp r hr=>by
 obtain rfl:=List.mem_singleton.1 hr
 obtain⟨h1,h2,h3⟩:=hp (.cus 117 [] [0,1] []) (by simp[r118])
 have h1:(F.R 0).length=(F.R 1).length:=h1
 intro pr hpr
 obtain⟨i,hi,rfl⟩:=List.getElem_of_mem hpr
 have hi:i<(F.R 0).length:=hi
 exact⟨_,h3 i _ ((F.R 1)[i]'(by omega)) (List.getElem?_eq_getElem hi) (List.getElem?_eq_getElem _)⟩
def rKeys(nT nK nA nB:Nat):Rule:=⟨[.int .i64,sB,.int .i64,sB,.boo],[nT,nK,nA,nB],0,[.cus 14 [] [0] [],.sr (.ll 0 (.un 0) tabC)],[⟨[],[],0,[.cus 12 [] [1] []]⟩]⟩
theorem rKeys_ok{nT nK nA nB:Nat}:RuleOk (RTN f N) (rKeys nT nK nA nB):=plain_ok rfl fun F hu hf hp r hr=>by
 obtain rfl:=List.mem_singleton.1 hr
 have h1:∀ r∈F.R 0,keys4 r:=hp (.cus 14 [] [0] []) (by simp[rKeys])
 obtain⟨n,_,h2⟩:=hp (.sr (.ll 0 (.un 0) tabC)) (by simp[rKeys])
 have h2:(F.R 0)[n]? =some [.sc (F.U 1),.fs (F.R 1),.fs (F.R 2),.sc (F.U 2),.sc (F.U 3),.fs (F.R 3),.sc (F.U 4)]:=h2
 obtain⟨l,h3,h4⟩:=h1 _ (List.mem_of_getElem? h2)
 have h3:some (IV.fs (F.R 1))=some (.fs l):=h3
 injection h3 with h3;injection h3 with h3
 subst h3
 exact h4
def rKd(nK:Nat):Rule:=⟨[.int .i64,sB,sB,.int .i64],[nK],0,[.cus 12 [] [0] [],.sr (.ll 0 (.un 0) [.un 1,.un 2,.un 3])],[⟨[],[],0,[.cmp .geq (.un 3) (zi 1) true,.cmp .leq (.un 3) (zi 4) true]⟩]⟩
theorem rKd_ok{nK:Nat}:RuleOk (RTN f N) (rKd nK):=plain_ok rfl fun F hu hf hp r hr=>by
 obtain⟨kd,h3⟩:=tInt (hu (3,.int .i64) (by simp[rKd,numb]))
 have h1:keysOk (F.R 0):=hp (.cus 12 [] [0] []) (by simp[rKd])
 obtain⟨n,_,h2⟩:=hp (.sr (.ll 0 (.un 0) [.un 1,.un 2,.un 3])) (by simp[rKd])
 have h2:(F.R 0)[n]? =some [.sc (F.U 1),.sc (F.U 2),.sc (F.U 3)]:=h2
 obtain⟨a,b,k,e1,e2,e3⟩:=h1.1 _ (List.mem_of_getElem? h2)
 rw[h3]at e1
 injection e1 with _ e1;injection e1 with _ e1;injection e1 with e1 _;injection e1 with e1;injection e1 with _ e1
 subst e1
 simp only[List.mem_cons,List.not_mem_nil,or_false]at hr
 rcases hr with rfl |rfl
 ·exact mkGe (bOf h3) e2
 ·exact mkLe (bOf h3) e3
def rNo4:Rule:=⟨[.int .i64],[],0,[.cmp .eql (.un 0) (zi 1) false,.cmp .eql (.un 0) (zi 2) false,.cmp .eql (.un 0) (zi 3) false,.cmp .eql (.un 0) (zi 4) false,.cmp .geq (.un 0) (zi 1) true,.cmp .leq (.un 0) (zi 4) true],[]⟩
theorem rNo4_ok:RuleOk (RTN f N) rNo4:=by
 intro F hu hf hp
 exfalso
 obtain⟨k,h0⟩:=tInt (hu (0,.int .i64) (by simp[rNo4,numb]))
 have h1:=of_decide_eq_false (cEq (bOf h0) (hp (.cmp .eql (.un 0) (zi 1) false) (by simp[rNo4])))
 have h2:=of_decide_eq_false (cEq (bOf h0) (hp (.cmp .eql (.un 0) (zi 2) false) (by simp[rNo4])))
 have h3:=of_decide_eq_false (cEq (bOf h0) (hp (.cmp .eql (.un 0) (zi 3) false) (by simp[rNo4])))
 have h4:=of_decide_eq_false (cEq (bOf h0) (hp (.cmp .eql (.un 0) (zi 4) false) (by simp[rNo4])))
 have h5:=cGe (bOf h0) (hp (.cmp .geq (.un 0) (zi 1) true) (by simp[rNo4]))
 have h6:=cLe (bOf h0) (hp (.cmp .leq (.un 0) (zi 4) true) (by simp[rNo4]))
 omega
def r119a(nK:Nat):Rule:=⟨[.int .i64],[nK],0,[],[⟨[],[],0,[.cus 119 [.un 0,zi 0] [0] []]⟩]⟩
theorem r119a_ok{nK:Nat}:RuleOk (RTN f N) (r119a nK):=plain_ok rfl fun F hu hf hp r hr=>by
 obtain rfl:=List.mem_singleton.1 hr
 obtain⟨k,h0⟩:=tInt (hu (0,.int .i64) (by simp[r119a,numb]))
 exact⟨k,0,bOf h0,rfl,fun q kr hq=>absurd hq (Nat.not_lt_zero _)⟩
def r119b(nK:Nat):Rule:=⟨[.int .i64,.int .i64,sB,sB,.int .i64,.nat],[nK],0,[.cus 119 [.un 0,.un 1] [0] [],.sr (.ll 0 (.un 1) [.un 2,.un 3,.un 4]),.cmp .eql (.un 4) (.un 0) false,.succ (.un 5) (.un 1)],[⟨[],[],0,[.cus 119 [.un 0,.un 5] [0] []]⟩]⟩
theorem cEq2{F:Far}{RT:RTab}{a b:IV}{n m:Int}{r:Bool}(ha:@bas F a=.sc (.int .i64 n))(hb:@bas F b=.sc (.int .i64 m))(h:@Rel.Holds F RT (.cmp .eql a b r)):decide (n=m)=r:=by
 obtain⟨k,x,y,h1,h2,h3⟩:=h
 rw[ha]at h1;rw[hb]at h2
 injection h1 with h1;injection h1 with h4 h1
 injection h2 with h2;injection h2 with _ h2
 subst h1;subst h2
 simp only[iInt2,Option.some.injEq,Value.bool.injEq]at h3
 exact h3
theorem r119b_ok{nK:Nat}:RuleOk (RTN f N) (r119b nK):=plain_ok rfl fun F hu hf hp r hr=>by
 obtain rfl:=List.mem_singleton.1 hr
 obtain⟨k,h4⟩:=tInt (hu (4,.int .i64) (by simp[r119b,numb]))
 obtain⟨m,n,h1,h2,h3⟩:=hp (.cus 119 [.un 0,.un 1] [0] []) (by simp[r119b])
 have h3:∀ (q:Nat) (kr:List IV),q<n->(F.R 0)[q]? =some kr->kk kr≠some m:=h3
 obtain⟨i,g1,g2⟩:=hp (.sr (.ll 0 (.un 1) [.un 2,.un 3,.un 4])) (by simp[r119b])
 have g2:(F.R 0)[i]? =some [.sc (F.U 2),.sc (F.U 3),.sc (F.U 4)]:=g2
 have e1:n=i:=bas_int_inj h2 g1
 have g3:=of_decide_eq_false (cEq2 (bOf h4) h1 (hp (.cmp .eql (.un 4) (.un 0) false) (by simp[r119b])))
 obtain⟨x,g4,g5⟩:=hp (.succ (.un 5) (.un 1)) (by simp[r119b])
 have e2:=int_inj h2 g4
 refine⟨m,n+1,h1,by rw[g5,<-e2];rfl,fun q kr hq hr=> ?_⟩
 rcases Nat.lt_or_ge q n with h |h
 ·exact h3 q kr h hr
 ·have:q=i:=by omega
  subst this
  have hr:(F.R 0)[q]? =some kr:=hr
  rw[g2]at hr;injection hr with hr;subst hr
  rw[h4]
  intro e
  have e:some k=some m:=e
  injection e with e
  exact g3 e
def r120a(nK:Nat):Rule:=⟨[.int .i64,.int .i64,.nat],[nK],0,[.cus 119 [.un 0,.un 1] [0] [],.len (.un 2) 0,.cmp .lss (.un 1) (.un 2) false],[⟨[],[],0,[.cus 120 [.un 0,zi (-1)] [0] []]⟩]⟩
theorem r120a_ok{nK:Nat}:RuleOk (RTN f N) (r120a nK):=plain_ok rfl fun F hu hf hp r hr=>by
 obtain rfl:=List.mem_singleton.1 hr
 obtain⟨m,n,h1,h2,h3⟩:=hp (.cus 119 [.un 0,.un 1] [0] []) (by simp[r120a])
 have h3:∀ (q:Nat) (kr:List IV),q<n->(F.R 0)[q]? =some kr->kk kr≠some m:=h3
 obtain⟨l,h4,_⟩:=tNat (hu (2,.nat) (by simp[r120a,numb]))
 have g1:=lenN (bOf h4) (hp (.len (.un 2) 0) (by simp[r120a]))
 have g2:=of_decide_eq_false (cLt h2 (bOf h4) (hp (.cmp .lss (.un 1) (.un 2) false) (by simp[r120a])))
 refine⟨m, -1,h1,rfl,fun _=> ?_,fun h=>absurd h (by decide)⟩
 rintro⟨kr,hm,hk⟩
 obtain⟨q,hq,rfl⟩:=List.getElem_of_mem hm
 have hq:q<(F.R 0).length:=hq
 exact h3 q _ (by omega) (List.getElem?_eq_getElem hq) hk
def r120b(nK:Nat):Rule:=⟨[.int .i64,.nat,sB,sB,.int .i64],[nK],0,[.sr (.ll 0 (.un 1) [.un 2,.un 3,.un 4]),.cmp .eql (.un 4) (.un 0) true],[⟨[],[],0,[.cus 120 [.un 0,.un 1] [0] []]⟩]⟩
theorem r120b_ok{nK:Nat}:RuleOk (RTN f N) (r120b nK):=plain_ok rfl fun F hu hf hp r hr=>by
 obtain rfl:=List.mem_singleton.1 hr
 obtain⟨m,h0⟩:=tInt (hu (0,.int .i64) (by simp[r120b,numb]))
 obtain⟨k,h4⟩:=tInt (hu (4,.int .i64) (by simp[r120b,numb]))
 obtain⟨i,g1,g2⟩:=hp (.sr (.ll 0 (.un 1) [.un 2,.un 3,.un 4])) (by simp[r120b])
 have g2:(F.R 0)[i]? =some [.sc (F.U 2),.sc (F.U 3),.sc (F.U 4)]:=g2
 have g3:=of_decide_eq_true (cEq2 (bOf h4) (bOf h0) (hp (.cmp .eql (.un 4) (.un 0) true) (by simp[r120b])))
 refine⟨m,i,bOf h0,g1,fun h=>absurd h (by omega),fun _=>⟨_,List.mem_of_getElem? g2,?_⟩⟩
 rw[h4,g3];rfl
def r121a(nK:Nat):Rule:=⟨[.int .i64],[nK],0,[.cus 120 [zi 3,.un 0] [0] [],.cmp .geq (.un 0) (zi 0) true],[⟨[],[],0,[.cus 121 [zi 3] [0] []]⟩]⟩
theorem r121a_ok{nK:Nat}:RuleOk (RTN f N) (r121a nK):=plain_ok rfl fun F hu hf hp r hr=>by
 obtain rfl:=List.mem_singleton.1 hr
 obtain⟨m,n,h1,h2,_,h3⟩:=hp (.cus 120 [zi 3,.un 0] [0] []) (by simp[r121a])
 have e:(3:Int)=m:=int_inj (x:=zi 3) rfl h1
 subst e
 have h4:=cGe h2 (hp (.cmp .geq (.un 0) (zi 0) true) (by simp[r121a]))
 exact⟨3,rfl,fun _=>.inl (h3 h4),fun _=>rfl⟩
def r121b(nK:Nat):Rule:=⟨[.int .i64],[nK],0,[.cus 120 [zi 4,.un 0] [0] [],.cmp .geq (.un 0) (zi 0) true],[⟨[],[],0,[.cus 121 [zi 3] [0] []]⟩]⟩
theorem r121b_ok{nK:Nat}:RuleOk (RTN f N) (r121b nK):=plain_ok rfl fun F hu hf hp r hr=>by
 obtain rfl:=List.mem_singleton.1 hr
 obtain⟨m,n,h1,h2,_,h3⟩:=hp (.cus 120 [zi 4,.un 0] [0] []) (by simp[r121b])
 have e:(4:Int)=m:=int_inj (x:=zi 4) rfl h1
 subst e
 have h4:=cGe h2 (hp (.cmp .geq (.un 0) (zi 0) true) (by simp[r121b]))
 exact⟨3,rfl,fun _=>.inr (h3 h4),fun _=>rfl⟩
def r121c(nK k:Nat):Rule:=⟨[.int .i64,.int .i64],[nK],0,[.cus 120 [zi 3,.un 0] [0] [],.cmp .geq (.un 0) (zi 0) false,.cus 120 [zi 4,.un 1] [0] [],.cmp .geq (.un 1) (zi 0) false],[⟨[],[],0,[.cus 121 [zi k] [0] []]⟩]⟩
theorem cGeF{F:Far}{RT:RTab}{a:IV}{c:Int}{n:Int}(ha:@bas F a=.sc (.int .i64 n))(h:@Rel.Holds F RT (.cmp .geq a (.sc (.int .i64 c)) false)):n<c:=by
 obtain⟨k,x,y,h1,h2,h3⟩:=h
 rw[ha]at h1
 have h2:IV.sc (.int .i64 c)=.sc (.int k y):=h2
 injection h1 with h1;injection h1 with h4 h1
 injection h2 with h2;injection h2 with _ h2
 subst h1;subst h2
 simp only[iInt2,iltI_eq,Option.some.injEq,Value.bool.injEq,Bool.not_eq_false',decide_eq_true_eq]at h3
 exact h3
theorem r121c_ok{nK k:Nat}(hk:k≠3):RuleOk (RTN f N) (r121c nK k):=plain_ok rfl fun F hu hf hp r hr=>by
 obtain rfl:=List.mem_singleton.1 hr
 obtain⟨m,n,h1,h2,h3,_⟩:=hp (.cus 120 [zi 3,.un 0] [0] []) (by simp[r121c])
 have e:(3:Int)=m:=int_inj (x:=zi 3) rfl h1
 subst e
 have h4:=cGeF h2 (hp (.cmp .geq (.un 0) (zi 0) false) (by simp[r121c]))
 obtain⟨m,n',g1,g2,g3,_⟩:=hp (.cus 120 [zi 4,.un 1] [0] []) (by simp[r121c])
 have e:(4:Int)=m:=int_inj (x:=zi 4) rfl g1
 subst e
 have g4:=cGeF g2 (hp (.cmp .geq (.un 1) (zi 0) false) (by simp[r121c]))
 exact⟨k,rfl,fun h=>absurd h (by omega),fun h=>h.elim (fun h=>absurd h (h3 h4)) fun h=>absurd h (g3 g4)⟩
def r129a(nK:Nat):Rule:=⟨[.int .i64],[nK],0,[.cus 121 [.un 0] [0] [],.cmp .eql (.un 0) (zi 3) true],[⟨[],[],0,[.cus 129 [.sc (.bool true)] [0] []]⟩]⟩
theorem r129a_ok{nK:Nat}:RuleOk (RTN f N) (r129a nK):=plain_ok rfl fun F hu hf hp r hr=>by
 obtain rfl:=List.mem_singleton.1 hr
 obtain⟨n,h1,h2⟩:=hp (.cus 121 [.un 0] [0] []) (by simp[r129a])
 have g:=of_decide_eq_true (cEq h1 (hp (.cmp .eql (.un 0) (zi 3) true) (by simp[r129a])))
 exact fun _=>h2.1 g
def r129b(nK:Nat):Rule:=⟨[],[nK],0,[],[⟨[],[],0,[.cus 129 [.sc (.bool false)] [0] []]⟩]⟩
theorem r129b_ok{nK:Nat}:RuleOk (RTN f N) (r129b nK):=plain_ok rfl fun F hu hf hp r hr=>by
 obtain rfl:=List.mem_singleton.1 hr
 intro h
 exact absurd h (by intro h;injection h with h;injection h with h;cases h)
def rC0a:Rule:=⟨[.int .i64],[],0,[.cmp .neq (.un 0) (zi 0) false,.cmp .geq (.un 0) (zi 1) true],[]⟩
theorem cNe{F:Far}{RT:RTab}{a:IV}{c n:Int}{r:Bool}(ha:@bas F a=.sc (.int .i64 n))(h:@Rel.Holds F RT (.cmp .neq a (.sc (.int .i64 c)) r)):decide (n=c)= !r:=by
 obtain⟨k,x,y,h1,h2,h3⟩:=h
 rw[ha]at h1;injection h1 with h1;injection h1 with _ h1
 simp only[bas]at h2;injection h2 with h2;injection h2 with _ h2
 subst h1;subst h2
 have h3:some (Value.bool (n != c))=some (Value.bool r):=h3
 injection h3 with h3;injection h3 with h3
 rw[<-h3];show decide (n=c)= !(!(n==c));rw[Bool.not_not];rfl
theorem rC0a_ok:RuleOk (RTN f N) rC0a:=by
 intro F hu hf hp
 exfalso
 obtain⟨k,h0⟩:=tInt (hu (0,.int .i64) (by simp[rC0a,numb]))
 have h1:=of_decide_eq_true (cNe (bOf h0) (hp (.cmp .neq (.un 0) (zi 0) false) (by simp[rC0a])))
 have h2:=cGe (bOf h0) (hp (.cmp .geq (.un 0) (zi 1) true) (by simp[rC0a]))
 omega
def rC0b:Rule:=⟨[.int .i64],[],0,[.cmp .eql (.un 0) (zi 0) true,.cmp .geq (.un 0) (zi 1) true],[]⟩
theorem rC0b_ok:RuleOk (RTN f N) rC0b:=by
 intro F hu hf hp
 exfalso
 obtain⟨k,h0⟩:=tInt (hu (0,.int .i64) (by simp[rC0b,numb]))
 have h1:=of_decide_eq_true (cEq (bOf h0) (hp (.cmp .eql (.un 0) (zi 0) true) (by simp[rC0b])))
 have h2:=cGe (bOf h0) (hp (.cmp .geq (.un 0) (zi 1) true) (by simp[rC0b]))
 omega
def rT32k(S:List Nat)(nK nA nB:Nat):Rule:=⟨tbU,S++[nK,nA,nB],0,[r50,.sr (.ll 4 (.un 1) tbC)],[⟨[],[],0,[.cus 32 [.un 0] [0,1,2,3,4,5,6] []]⟩]⟩
theorem rT32k_ok{S:List Nat}{nK nA nB:Nat}:RuleOk (RTN f N) (rT32k S nK nA nB):=plain_ok rfl fun F hu hf hp r hr=>by
 obtain rfl:=List.mem_singleton.1 hr
 obtain⟨n,h1,h2⟩:=hp (.sr (.ll 4 (.un 1) tbC)) (by simp[rT32k])
 have h3:=at50 (hp r50 (by simp[rT32k])) h1
 have h2:(F.R 4)[n]? =some _:=h2
 exact⟨n,F.R 4,_,F.R 6,h3,rfl,h2,rfl,rfl⟩
def RM(S:List Nat)(n:RN):List Rule:=[rEmpP,r116e n.nK,rPart n.nK 1,rPart n.nK 2,rPart n.nK 3,rPart n.nK 4,r117 n.nK,r118 n.nK,rKeys n.nT n.nK n.nA n.nB,rKd n.nK,rNo4,r119a n.nK,r119b n.nK,r120a n.nK,r120b n.nK,r121a n.nK,r121b n.nK,r121c n.nK 2,r121c n.nK 1,r129a n.nK,r129b n.nK,rC0a,rC0b,rT32k S n.nK n.nA n.nB]
theorem all_cons{p:Rule->Prop}{R:Rule}{l:List Rule}(h1:p R)(h2:∀ R∈l,p R):∀ Q∈R::l,p Q:=fun Q h=>(List.mem_cons.1 h).elim (fun e=>e▸h1) (h2 Q)
theorem all_nil{p:Rule->Prop}:∀ Q∈([]:List Rule),p Q:=fun Q h=>by cases h
theorem RM_ok{S:List Nat}{n:RN}:∀ R∈RM S n,RuleOk (RTN f N) R:=
 all_cons rEmpP_ok <|all_cons r116e_ok <|all_cons (rPart_ok (by decide) (by decide)) <|all_cons (rPart_ok (by decide) (by decide)) <|all_cons (rPart_ok (by decide) (by decide)) <|all_cons (rPart_ok (by decide) (by decide)) <|all_cons r117_ok <|all_cons r118_ok <|all_cons rKeys_ok <|all_cons rKd_ok <|all_cons rNo4_ok <|
 all_cons r119a_ok <|all_cons r119b_ok <|all_cons r120a_ok <|all_cons r120b_ok <|all_cons r121a_ok <|all_cons r121b_ok <|all_cons (r121c_ok (by decide)) <|all_cons (r121c_ok (by decide)) <|all_cons r129a_ok <|all_cons r129b_ok <|all_cons rC0a_ok <|all_cons rC0b_ok <|all_cons rT32k_ok all_nil
def RUM(f:Nat->List Ty)(n:RN)(S:List Nat):List Rule:=RUW f n S++RM S n
theorem RUM_ok{n:RN}{S:List Nat}:∀ R∈RUM f n S,RuleOk (RTN f N) R:=fun R h=>(List.mem_append.1 h).elim (RUW_ok R) (RM_ok R)
end Go.Eng.Cons
namespace Go.Eng.Cons
open Go.RowKit Go.Eng
variable {f:Nat->List Ty}{N:PN}
def rSplit:Rule:=⟨[.nat,.nat],[104],0,[.cus 118 [] [0] [],.len (.un 1) 0,.cmp .lss (.un 0) (.un 1) true],[⟨[],[],0,[.cus 147 [.un 0] [0] []]⟩,⟨[],[],0,[.cus 148 [.un 0] [0] []]⟩]⟩
theorem rSplit_ok:RuleOk (RTN f N) rSplit:=by
 intro F hu hf hp
 obtain⟨i,h0,_⟩:=tNat (hu (0,.nat) (by simp[rSplit,numb]))
 obtain⟨n,h1,_⟩:=tNat (hu (1,.nat) (by simp[rSplit,numb]))
 have g1:∀ pr∈F.R 0,isPart pr:=hp (.cus 118 [] [0] []) (by simp[rSplit])
 have g2:=lenN (bOf h1) (hp (.len (.un 1) 0) (by simp[rSplit]))
 have g3:=of_decide_eq_true (cLt (bOf h0) (bOf h1) (hp (.cmp .lss (.un 0) (.un 1) true) (by simp[rSplit])))
 have hi:i<(F.R 0).length:=by omega
 obtain⟨kr,k,w,h,l,k1,k4,w0,w1,_,hr⟩:=g1 _ (List.getElem_mem hi)
 have hg:(F.R 0)[i]? =some (shp k (i64 k) (i64 w) (u64 h) (u64 l)):=by rw[List.getElem?_eq_getElem hi,hr]
 by_cases hk:k<=2
 ·refine⟨⟨[],[],0,[.cus 147 [.un 0] [0] []]⟩,by simp[rSplit],F,Far.Agree.refl _ _,⟨fun e he=>by simp[numb]at he,fun e he=>by simp[numb]at he,fun r hr=> ?_⟩⟩
  obtain rfl:=List.mem_singleton.1 hr
  exact⟨i,bOf h0,k,w,h,l,hk,k1,w0,w1,hg⟩
 ·refine⟨⟨[],[],0,[.cus 148 [.un 0] [0] []]⟩,by simp[rSplit],F,Far.Agree.refl _ _,⟨fun e he=>by simp[numb]at he,fun e he=>by simp[numb]at he,fun r hr=> ?_⟩⟩
  obtain rfl:=List.mem_singleton.1 hr
  exact⟨i,bOf h0,k,w,h,l,by omega,k4,w0,w1,hg⟩
def pkAlt(k:Nat):RAlt:=⟨[.int .i64,.int .u64,.int .u64],[],0,[.sr (.ll 0 (.un 0) (shp k (i64 k) (.un 1) (.un 2) (.un 3))),.cmp .geq (.un 1) (zi 0) true,.cmp .leq (.un 1) (zi 128) true]⟩
theorem pk_ok{R:Rule}(hR:R.u=[.nat]∧R.f=[104]∧R.m=0){F:Far}{i k:Nat}{w h l:Int}(h0:F.U 0=.int .i64 i)(w0:0<=w)(w1:w<=128)(hg:(F.R 0)[i]? =some (shp k (i64 k) (i64 w) (u64 h) (u64 l))):
 ∃G:Far,F.Agree R.c G∧RAltOk (RTN f N) G R (pkAlt k):=by
 obtain⟨e1,e2,e3⟩:=hR
 have s1:scalar (.int .i64 w)=true:=rfl
 have s2:scalar (.int .u64 h)=true:=rfl
 have s3:scalar (.int .u64 l)=true:=rfl
 let G:=((F.putU 1 _ s1).putU 2 _ s2).putU 3 _ s3
 have a1:G.U 1=.int .i64 w:=rfl
 have a2:G.U 2=.int .u64 h:=rfl
 have a3:G.U 3=.int .u64 l:=rfl
 have a0:G.U 0=.int .i64 i:=h0
 refine⟨G,?_,⟨fun e he=> ?_,fun e he=>by simp[pkAlt,numb]at he,fun r hr=> ?_⟩⟩
 ·have c1:R.c=⟨1,1,0⟩:=by simp[Rule.c,e1,e2,e3]
  rw[c1]
  exact((F.putU_agree s1 (Nat.le_refl _)).trans ((F.putU 1 _ s1).putU_agree s2 (by decide))).trans (((F.putU 1 _ s1).putU 2 _ s2).putU_agree s3 (by decide))
 ·rw[e1]at he
  simp only[pkAlt,List.length_cons,List.length_nil,numb,List.mem_cons,List.not_mem_nil,or_false]at he
  rcases he with rfl |rfl |rfl
  ·show TyV _ _ (.sc (G.U 1));rw[a1];exact .int
  ·show TyV _ _ (.sc (G.U 2));rw[a2];exact .int
  ·show TyV _ _ (.sc (G.U 3));rw[a3];exact .int
 ·simp only[pkAlt,List.mem_cons,List.not_mem_nil,or_false]at hr
  rcases hr with rfl |rfl |rfl
  ·refine⟨i,bOf a0,?_⟩
   rw[shp_rsk,a1,a2,a3]
   exact hg
  ·exact mkGe (F:=G) (bOf a1) w0
  ·exact mkLe (F:=G) (bOf a1) w1
def rPk12:Rule:=⟨[.nat],[104],0,[.cus 147 [.un 0] [0] []],[pkAlt 1,pkAlt 2]⟩
theorem rPk12_ok:RuleOk (RTN f N) rPk12:=by
 intro F hu hf hp
 obtain⟨i,h0,_⟩:=tNat (hu (0,.nat) (by simp[rPk12,numb]))
 obtain⟨n,h1,k,w,h,l,k2,k1,w0,w1,hg⟩:=hp (.cus 147 [.un 0] [0] []) (by simp[rPk12])
 have e:n=i:=bas_int_inj h1 (bOf h0)
 subst e
 have:k=1∨k=2:=by omega
 rcases this with rfl |rfl
 ·exact⟨pkAlt 1,by simp[rPk12],pk_ok ⟨rfl,rfl,rfl⟩ h0 w0 w1 hg⟩
 ·exact⟨pkAlt 2,by simp[rPk12],pk_ok ⟨rfl,rfl,rfl⟩ h0 w0 w1 hg⟩
def rPk34:Rule:=⟨[.nat],[104],0,[.cus 148 [.un 0] [0] []],[pkAlt 3,pkAlt 4]⟩
theorem rPk34_ok:RuleOk (RTN f N) rPk34:=by
 intro F hu hf hp
 obtain⟨i,h0,_⟩:=tNat (hu (0,.nat) (by simp[rPk34,numb]))
 obtain⟨n,h1,k,w,h,l,k3,k4,w0,w1,hg⟩:=hp (.cus 148 [.un 0] [0] []) (by simp[rPk34])
 have e:n=i:=bas_int_inj h1 (bOf h0)
 subst e
 have:k=3∨k=4:=by omega
 rcases this with rfl |rfl
 ·exact⟨pkAlt 3,by simp[rPk34],pk_ok ⟨rfl,rfl,rfl⟩ h0 w0 w1 hg⟩
 ·exact⟨pkAlt 4,by simp[rPk34],pk_ok ⟨rfl,rfl,rfl⟩ h0 w0 w1 hg⟩
def r123a(nM:Nat):Rule:=⟨[],[104,nM],0,[],[⟨[],[],0,[.cus 123 [zi 0] [0,1] []]⟩]⟩
theorem r123a_ok{nM:Nat}:RuleOk (RTN f N) (r123a nM):=plain_ok rfl fun F hu hf hp r hr=>by
 obtain rfl:=List.mem_singleton.1 hr
 exact⟨0,rfl,fun q pr mr hq=>absurd hq (Nat.not_lt_zero _)⟩
theorem whoTo_succ{n:Nat}{P M:List (List IV)}{pr:List IV}(h:whoTo n P M)(hp:P[n]? =some pr)(hr:∀ mr,M[n]? =some mr->whoRow pr mr):whoTo (n+1) P M:=fun q pr' mr hq h1 h2=>by
 by_cases e:q=n
 ·subst e
  rw[hp]at h1;injection h1 with h1;subst h1
  exact hr mr h2
 ·exact h q pr' mr (by omega) h1 h2
theorem hitTo_succ{n:Nat}{P M Y:List (List IV)}{pr:List IV}(h:hitTo n P M Y)(hp:P[n]? =some pr)(hr:∀ mr kr,M[n]? =some mr->Y[n]? =some kr->hitRow pr mr kr):hitTo (n+1) P M Y:=fun q pr' mr kr hq h1 h2 h3=>by
 by_cases e:q=n
 ·subst e
  rw[hp]at h1;injection h1 with h1;subst h1
  exact hr mr kr h2 h3
 ·exact h q pr' mr kr (by omega) h1 h2 h3
theorem i64_inj{a b:Int}(h:i64 a=i64 b):a=b:=by
 injection h with h;injection h
def r123s(nM k:Nat):Rule:=⟨[.nat,.int .i64,.int .u64,.int .u64,.nat],[104,nM],0,[.cus 123 [.un 0] [0,1] [],.sr (.ll 0 (.un 0) (shp k (i64 k) (.un 1) (.un 2) (.un 3))),.succ (.un 4) (.un 0)],[⟨[],[],0,[.cus 123 [.un 4] [0,1] []]⟩]⟩
theorem r123s_ok{nM k:Nat}(hk:3<=k):RuleOk (RTN f N) (r123s nM k):=plain_ok rfl fun F hu hf hp r hr=>by
 obtain rfl:=List.mem_singleton.1 hr
 obtain⟨n,h1,h2⟩:=hp (.cus 123 [.un 0] [0,1] []) (by simp[r123s])
 obtain⟨i,g1,g2⟩:=hp (.sr (.ll 0 (.un 0) (shp k (i64 k) (.un 1) (.un 2) (.un 3)))) (by simp[r123s])
 rw[shp_rsk]at g2
 have e:n=i:=bas_int_inj h1 g1
 subst e
 obtain⟨x,g4,g5⟩:=hp (.succ (.un 4) (.un 0)) (by simp[r123s])
 have e2:=int_inj h1 g4
 refine⟨n+1,by rw[g5,<-e2];rfl,whoTo_succ h2 g2 fun mr _=>⟨fun h=> ?_,fun h=> ?_⟩⟩
 ·rw[shp0]at h;injection h with h;have:=i64_inj h;omega
 ·rw[shp0]at h;injection h with h;have:=i64_inj h;omega
def mC(k:Nat):List IV:=[.un k,.un (k+1),.un (k+2),.un (k+3),.un (k+4)]
def mU:List Ty:=[.int .u64,.int .u64,.int .u64,.int .u64,.int .i64]
def r123k(nM:Nat):Rule:=⟨[.nat,.int .i64,.int .u64,.int .u64,.nat]++mU,[104,nM],0,[.cus 123 [.un 0] [0,1] [],.sr (.ll 0 (.un 0) (shp 1 (i64 1) (.un 1) (.un 2) (.un 3))),.succ (.un 4) (.un 0),.sr (.ll 1 (.un 0) (mC 5)),.cus 130 (mC 5) [] []],[⟨[],[],0,[.cus 123 [.un 4] [0,1] []]⟩]⟩
theorem cEqA{F:Far}{RT:RTab}{a b:IV}(h:@Rel.Holds F RT (.cmp .eql a b true)):@bas F a=@bas F b:=by
 obtain⟨k,x,y,h1,h2,h3⟩:=h
 have h3:some (Value.bool (x==y))=some (Value.bool true):=h3
 injection h3 with h3;injection h3 with h3
 rw[h1,h2,eq_of_beq h3]
theorem r123k_ok{nM:Nat}:RuleOk (RTN f N) (r123k nM):=plain_ok rfl fun F hu hf hp r hr=>by
 obtain rfl:=List.mem_singleton.1 hr
 obtain⟨n,h1,h2⟩:=hp (.cus 123 [.un 0] [0,1] []) (by simp[r123k])
 obtain⟨i,g1,g2⟩:=hp (.sr (.ll 0 (.un 0) (shp 1 (i64 1) (.un 1) (.un 2) (.un 3)))) (by simp[r123k])
 have g2:(F.R 0)[i]? =some ((shp 1 (i64 1) (.un 1) (.un 2) (.un 3)).map (@rs F 20)):=g2
 rw[shp_rsk]at g2
 have e:n=i:=bas_int_inj h1 g1
 subst e
 obtain⟨x,g4,g5⟩:=hp (.succ (.un 4) (.un 0)) (by simp[r123k])
 have e2:=int_inj h1 g4
 obtain⟨m,m1,m2⟩:=hp (.sr (.ll 1 (.un 0) (mC 5))) (by simp[r123k])
 have e3:n=m:=bas_int_inj h1 m1
 subst e3
 have m2:(F.R 1)[n]? =some [.sc (F.U 5),.sc (F.U 6),.sc (F.U 7),.sc (F.U 8),.sc (F.U 9)]:=m2
 obtain⟨q7,q8,q9⟩:IV.sc (F.U 7)=u64 0∧IV.sc (F.U 8)=u64 0∧IV.sc (F.U 9)=i64 0:=hp (.cus 130 (mC 5) [] []) (by simp[r123k])
 refine⟨n+1,by rw[g5,<-e2];rfl,whoTo_succ h2 g2 fun mr hm=>⟨fun h=> ?_,fun h=> ?_⟩⟩
 ·rw[m2]at hm;injection hm with hm;subst hm
  rw[q7,q8,q9];exact⟨_,_,rfl⟩
 ·rw[shp0]at h;injection h with h;have:=i64_inj h;omega
def r123p(nM:Nat):Rule:=⟨[.nat,.int .i64,.int .u64,.int .u64,.nat]++mU,[104,nM],0,[.cus 123 [.un 0] [0,1] [],.sr (.ll 0 (.un 0) (shp 2 (i64 2) (.un 1) (.un 2) (.un 3))),.succ (.un 4) (.un 0),.sr (.ll 1 (.un 0) (mC 5)),.cus 131 [.un 9,.un 1] [] []],[⟨[],[],0,[.cus 123 [.un 4] [0,1] []]⟩]⟩
theorem cLe2{F:Far}{RT:RTab}{a b:IV}{n m:Int}(ha:@bas F a=.sc (.int .i64 n))(hb:@bas F b=.sc (.int .i64 m))(h:@Rel.Holds F RT (.cmp .leq a b true)):n<=m:=by
 obtain⟨k,x,y,h1,h2,h3⟩:=h
 rw[ha]at h1;rw[hb]at h2
 injection h1 with h1;injection h1 with h4 h1
 injection h2 with h2;injection h2 with _ h2
 subst h1;subst h2
 simp only[iInt2,iltI_eq,Option.some.injEq,Value.bool.injEq,Bool.not_eq_true',decide_eq_false_iff_not,Int.not_lt]at h3
 exact h3
theorem r123p_ok{nM:Nat}:RuleOk (RTN f N) (r123p nM):=plain_ok rfl fun F hu hf hp r hr=>by
 obtain rfl:=List.mem_singleton.1 hr
 obtain⟨w,hw⟩:=tInt (hu (1,.int .i64) (by simp[r123p,numb]))
 obtain⟨l,hl⟩:=tInt (hu (9,.int .i64) (by simp[r123p,numb,mU]))
 obtain⟨n,h1,h2⟩:=hp (.cus 123 [.un 0] [0,1] []) (by simp[r123p])
 obtain⟨i,g1,g2⟩:=hp (.sr (.ll 0 (.un 0) (shp 2 (i64 2) (.un 1) (.un 2) (.un 3)))) (by simp[r123p])
 have g2:(F.R 0)[i]? =some ((shp 2 (i64 2) (.un 1) (.un 2) (.un 3)).map (@rs F 20)):=g2
 rw[shp_rsk]at g2
 have e:n=i:=bas_int_inj h1 g1
 subst e
 obtain⟨x,g4,g5⟩:=hp (.succ (.un 4) (.un 0)) (by simp[r123p])
 have e2:=int_inj h1 g4
 obtain⟨m,m1,m2⟩:=hp (.sr (.ll 1 (.un 0) (mC 5))) (by simp[r123p])
 have e3:n=m:=bas_int_inj h1 m1
 subst e3
 have m2:(F.R 1)[n]? =some [.sc (F.U 5),.sc (F.U 6),.sc (F.U 7),.sc (F.U 8),.sc (F.U 9)]:=m2
 obtain⟨l',w',e4,e5,q1,q2⟩:=hp (.cus 131 [.un 9,.un 1] [] []) (by simp[r123p])
 have e4:=int_inj (bOf hl) e4
 have e5:=int_inj (bOf hw) e5
 subst e4;subst e5
 refine⟨n+1,by rw[g5,<-e2];rfl,whoTo_succ h2 g2 fun mr hm=>⟨fun h=> ?_,fun _=> ?_⟩⟩
 ·rw[shp0]at h;injection h with h;have:=i64_inj h;omega
 ·rw[m2]at hm;injection hm with hm;subst hm
  exact⟨l,w,by rw[shp1,hw];rfl,by rw[hl];rfl,q1,q2⟩
def r124(nM:Nat):Rule:=⟨[.nat,.nat,.nat],[104,nM],0,[.cus 123 [.un 0] [0,1] [],.len (.un 1) 0,.cmp .lss (.un 0) (.un 1) false,.len (.un 2) 1,.cmp .neq (.un 2) (.un 1) false],[⟨[],[],0,[.cus 124 [] [0,1] []]⟩]⟩
theorem cNe2{F:Far}{RT:RTab}{a b:IV}(h:@Rel.Holds F RT (.cmp .neq a b false)):@bas F a=@bas F b:=by
 obtain⟨k,x,y,h1,h2,h3⟩:=h
 have h3:some (Value.bool (x != y))=some (Value.bool false):=h3
 injection h3 with h3;injection h3 with h3
 have:x=y:=by simpa using h3
 rw[h1,h2,this]
theorem whoTo_mono{n m:Nat}{P M:List (List IV)}(h:whoTo n P M)(hm:m<=n):whoTo m P M:=fun q pr mr hq=>h q pr mr (by omega)
theorem r124_ok{nM:Nat}:RuleOk (RTN f N) (r124 nM):=plain_ok rfl fun F hu hf hp r hr=>by
 obtain rfl:=List.mem_singleton.1 hr
 obtain⟨m,h1,_⟩:=tNat (hu (1,.nat) (by simp[r124,numb]))
 obtain⟨k,h2,_⟩:=tNat (hu (2,.nat) (by simp[r124,numb]))
 obtain⟨n,g1,g2⟩:=hp (.cus 123 [.un 0] [0,1] []) (by simp[r124])
 have g3:=lenN (bOf h1) (hp (.len (.un 1) 0) (by simp[r124]))
 have g4:=of_decide_eq_false (cLt g1 (bOf h1) (hp (.cmp .lss (.un 0) (.un 1) false) (by simp[r124])))
 have g5:=lenN (bOf h2) (hp (.len (.un 2) 1) (by simp[r124]))
 have g6:=cNe2 (hp (.cmp .neq (.un 2) (.un 1) false) (by simp[r124]))
 rw[bOf h1,bOf h2]at g6
 have g6:(k:Int)=m:=by injection g6 with g6;injection g6
 exact⟨by show (F.R 1).length=(F.R 0).length;omega,whoTo_mono g2 (by show (F.R 0).length<=n;omega)⟩
def r128a:Rule:=⟨[.int .i64,.boo],[],0,[.isb (.un 1) true],[⟨[],[],0,[.cus 128 [.un 0,.un 1] [] []]⟩]⟩
theorem r128a_ok:RuleOk (RTN f N) r128a:=plain_ok rfl fun F hu hf hp r hr=>by
 obtain rfl:=List.mem_singleton.1 hr
 obtain⟨n,h0⟩:=tInt (hu (0,.int .i64) (by simp[r128a,numb]))
 have h1:@bas F (.un 1)=.sc (.bool true):=hp (.isb (.un 1) true) (by simp[r128a])
 exact⟨n,true,bOf h0,h1,fun h=>by cases h⟩
def r128b:Rule:=⟨[.int .i64,.boo],[],0,[.isb (.un 1) false,.cmp .lss (.un 0) (zi 0) false,.cmp .gtr (.un 0) (zi 0) false],[⟨[],[],0,[.cus 128 [.un 0,.un 1] [] []]⟩]⟩
theorem cGtF{F:Far}{RT:RTab}{a:IV}{c n:Int}(ha:@bas F a=.sc (.int .i64 n))(h:@Rel.Holds F RT (.cmp .gtr a (.sc (.int .i64 c)) false)):n<=c:=by
 obtain⟨k,x,y,h1,h2,h3⟩:=h
 rw[ha]at h1
 have h2:IV.sc (.int .i64 c)=.sc (.int k y):=h2
 injection h1 with h1;injection h1 with h4 h1
 injection h2 with h2;injection h2 with _ h2
 subst h1;subst h2
 simp only[iInt2,iltI_eq,Option.some.injEq,Value.bool.injEq,decide_eq_false_iff_not,Int.not_lt]at h3
 exact h3
theorem r128b_ok:RuleOk (RTN f N) r128b:=plain_ok rfl fun F hu hf hp r hr=>by
 obtain rfl:=List.mem_singleton.1 hr
 obtain⟨n,h0⟩:=tInt (hu (0,.int .i64) (by simp[r128b,numb]))
 have h1:@bas F (.un 1)=.sc (.bool false):=hp (.isb (.un 1) false) (by simp[r128b])
 have h2:=of_decide_eq_false (cLt (bOf h0) (show @bas F (zi 0)=.sc (.int .i64 0)from rfl) (hp (.cmp .lss (.un 0) (zi 0) false) (by simp[r128b])))
 have h3:=cGtF (bOf h0) (hp (.cmp .gtr (.un 0) (zi 0) false) (by simp[r128b]))
 exact⟨n,false,bOf h0,h1,fun _=>by omega⟩
def r127(nB:Nat):Rule:=⟨[.nat,.nat],[104,nB],0,[.len (.un 0) 0,.len (.un 1) 1,.cmp .eql (.un 1) (.un 0) true],[⟨[],[],0,[.cus 127 [] [0,1] []]⟩]⟩
theorem r127_ok{nB:Nat}:RuleOk (RTN f N) (r127 nB):=plain_ok rfl fun F hu hf hp r hr=>by
 obtain rfl:=List.mem_singleton.1 hr
 obtain⟨m,h0,_⟩:=tNat (hu (0,.nat) (by simp[r127,numb]))
 obtain⟨k,h1,_⟩:=tNat (hu (1,.nat) (by simp[r127,numb]))
 have g0:=lenN (bOf h0) (hp (.len (.un 0) 0) (by simp[r127]))
 have g1:=lenN (bOf h1) (hp (.len (.un 1) 1) (by simp[r127]))
 have g6:=cEqA (hp (.cmp .eql (.un 1) (.un 0) true) (by simp[r127]))
 rw[bOf h0,bOf h1]at g6
 have g6:(k:Int)=m:=by injection g6 with g6;injection g6
 show (F.R 1).length=(F.R 0).length
 omega
def rL127(nB:Nat):Rule:=⟨[.nat],[104,nB],0,[.len (.un 0) 0,.cus 127 [] [0,1] []],[⟨[],[],0,[.len (.un 0) 1]⟩]⟩
theorem rL127_ok{nB:Nat}:RuleOk (RTN f N) (rL127 nB):=plain_ok rfl fun F hu hf hp r hr=>by
 obtain rfl:=List.mem_singleton.1 hr
 obtain⟨m,h0,_⟩:=tNat (hu (0,.nat) (by simp[rL127,numb]))
 have g0:=lenN (bOf h0) (hp (.len (.un 0) 0) (by simp[rL127]))
 have g1:(F.R 1).length=(F.R 0).length:=hp (.cus 127 [] [0,1] []) (by simp[rL127])
 exact mkLen (bOf h0) (by omega)
def rL124(nM:Nat):Rule:=⟨[.nat],[104,nM],0,[.len (.un 0) 0,.cus 124 [] [0,1] []],[⟨[],[],0,[.len (.un 0) 1]⟩]⟩
theorem rL124_ok{nM:Nat}:RuleOk (RTN f N) (rL124 nM):=plain_ok rfl fun F hu hf hp r hr=>by
 obtain rfl:=List.mem_singleton.1 hr
 obtain⟨m,h0,_⟩:=tNat (hu (0,.nat) (by simp[rL124,numb]))
 have g0:=lenN (bOf h0) (hp (.len (.un 0) 0) (by simp[rL124]))
 have g1:(F.R 1).length=(F.R 0).length:=(hp (.cus 124 [] [0,1] []) (by simp[rL124]):_∧_).1
 exact mkLen (bOf h0) (by omega)
theorem mkLe2{F:Far}{RT:RTab}{a b:IV}{n m:Int}(ha:@bas F a=.sc (.int .i64 n))(hb:@bas F b=.sc (.int .i64 m))(h:n<=m):@Rel.Holds F RT (.cmp .leq a b true):=by
 refine⟨.i64,n,m,ha,hb,?_⟩
 simp only[iInt2,iltI_eq,Option.some.injEq,Value.bool.injEq,Bool.not_eq_true',decide_eq_false_iff_not,Int.not_lt]
 exact h
def r125a(nM nB:Nat):Rule:=⟨[],[104,nM,nB],0,[],[⟨[],[],0,[.cus 125 [zi 0] [0,1,2] []]⟩]⟩
theorem r125a_ok{nM nB:Nat}:RuleOk (RTN f N) (r125a nM nB):=plain_ok rfl fun F hu hf hp r hr=>by
 obtain rfl:=List.mem_singleton.1 hr
 exact⟨0,rfl,fun q pr mr kr hq=>absurd hq (Nat.not_lt_zero _)⟩
def r125s(nM nB k:Nat):Rule:=⟨[.nat,.int .i64,.int .u64,.int .u64,.nat],[104,nM,nB],0,[.cus 125 [.un 0] [0,1,2] [],.sr (.ll 0 (.un 0) (shp k (i64 k) (.un 1) (.un 2) (.un 3))),.succ (.un 4) (.un 0)],[⟨[],[],0,[.cus 125 [.un 4] [0,1,2] []]⟩]⟩
theorem r125s_ok{nM nB k:Nat}(hk:2<=k):RuleOk (RTN f N) (r125s nM nB k):=plain_ok rfl fun F hu hf hp r hr=>by
 obtain rfl:=List.mem_singleton.1 hr
 obtain⟨n,h1,h2⟩:=hp (.cus 125 [.un 0] [0,1,2] []) (by simp[r125s])
 obtain⟨i,g1,g2⟩:=hp (.sr (.ll 0 (.un 0) (shp k (i64 k) (.un 1) (.un 2) (.un 3)))) (by simp[r125s])
 rw[shp_rsk]at g2
 have e:n=i:=bas_int_inj h1 g1
 subst e
 obtain⟨x,g4,g5⟩:=hp (.succ (.un 4) (.un 0)) (by simp[r125s])
 have e2:=int_inj h1 g4
 refine⟨n+1,by rw[g5,<-e2];rfl,hitTo_succ h2 g2 fun mr kr _ _ h=> ?_⟩
 rw[shp0]at h;injection h with h;have:=i64_inj h;omega
def r125k(nM nB:Nat):Rule:=⟨[.nat,.int .i64,.int .u64,.int .u64,.nat]++(mU++[.int .u64,.int .u64]),[104,nM,nB],0,[.cus 125 [.un 0] [0,1,2] [],.sr (.ll 0 (.un 0) (shp 1 (i64 1) (.un 1) (.un 2) (.un 3))),.succ (.un 4) (.un 0),.sr (.ll 1 (.un 0) (mC 5)),.sr (.ll 2 (.un 0) [.un 10,.un 11]),.cus 132 [.un 5,.un 6,.un 10,.un 11] [] []],[⟨[],[],0,[.cus 125 [.un 4] [0,1,2] []]⟩]⟩
theorem r125k_ok{nM nB:Nat}:RuleOk (RTN f N) (r125k nM nB):=plain_ok rfl fun F hu hf hp r hr=>by
 obtain rfl:=List.mem_singleton.1 hr
 obtain⟨n,h1,h2⟩:=hp (.cus 125 [.un 0] [0,1,2] []) (by simp[r125k])
 obtain⟨i,g1,g2⟩:=hp (.sr (.ll 0 (.un 0) (shp 1 (i64 1) (.un 1) (.un 2) (.un 3)))) (by simp[r125k])
 have g2:(F.R 0)[i]? =some ((shp 1 (i64 1) (.un 1) (.un 2) (.un 3)).map (@rs F 20)):=g2
 rw[shp_rsk]at g2
 have e:n=i:=bas_int_inj h1 g1
 subst e
 obtain⟨x,g4,g5⟩:=hp (.succ (.un 4) (.un 0)) (by simp[r125k])
 have e2:=int_inj h1 g4
 obtain⟨m,m1,m2⟩:=hp (.sr (.ll 1 (.un 0) (mC 5))) (by simp[r125k])
 have e3:n=m:=bas_int_inj h1 m1
 subst e3
 have m2:(F.R 1)[n]? =some [.sc (F.U 5),.sc (F.U 6),.sc (F.U 7),.sc (F.U 8),.sc (F.U 9)]:=m2
 obtain⟨m,y1,y2⟩:=hp (.sr (.ll 2 (.un 0) [.un 10,.un 11])) (by simp[r125k])
 have e3:n=m:=bas_int_inj h1 y1
 subst e3
 have y2:(F.R 2)[n]? =some [.sc (F.U 10),.sc (F.U 11)]:=y2
 obtain⟨q1,q2⟩:IV.sc (F.U 5)=.sc (F.U 10)∧IV.sc (F.U 6)=.sc (F.U 11):=hp (.cus 132 [.un 5,.un 6,.un 10,.un 11] [] []) (by simp[r125k])
 refine⟨n+1,by rw[g5,<-e2];rfl,hitTo_succ h2 g2 fun mr kr hm hy h=> ?_⟩
 rw[m2]at hm;injection hm with hm;subst hm
 rw[y2]at hy;injection hy with hy;subst hy
 exact⟨_,_,rfl,by rw[q1];rfl,by rw[q2];rfl⟩
def r126(nM nB:Nat):Rule:=⟨[.nat,.nat],[104,nM,nB],0,[.cus 125 [.un 0] [0,1,2] [],.len (.un 1) 0,.cmp .lss (.un 0) (.un 1) false],[⟨[],[],0,[.cus 126 [] [0,1,2] []]⟩]⟩
theorem r126_ok{nM nB:Nat}:RuleOk (RTN f N) (r126 nM nB):=plain_ok rfl fun F hu hf hp r hr=>by
 obtain rfl:=List.mem_singleton.1 hr
 obtain⟨m,h1,_⟩:=tNat (hu (1,.nat) (by simp[r126,numb]))
 obtain⟨n,g1,g2⟩:=hp (.cus 125 [.un 0] [0,1,2] []) (by simp[r126])
 have g3:=lenN (bOf h1) (hp (.len (.un 1) 0) (by simp[r126]))
 have g4:=of_decide_eq_false (cLt g1 (bOf h1) (hp (.cmp .lss (.un 0) (.un 1) false) (by simp[r126])))
 exact fun q pr mr kr hq=>g2 q pr mr kr (by have hq:q<(F.R 0).length:=hq;omega)
def r130:Rule:=⟨mU,[],0,[.cmp .eql (.un 2) (u64 0) true,.cmp .eql (.un 3) (u64 0) true,.cmp .eql (.un 4) (zi 0) true],[⟨[],[],0,[.cus 130 (mC 0) [] []]⟩]⟩
theorem r130_ok:RuleOk (RTN f N) r130:=plain_ok rfl fun F hu hf hp r hr=>by
 obtain rfl:=List.mem_singleton.1 hr
 exact⟨cEqA (hp (.cmp .eql (.un 2) (u64 0) true) (by simp[r130])),cEqA (hp (.cmp .eql (.un 3) (u64 0) true) (by simp[r130])),cEqA (hp (.cmp .eql (.un 4) (zi 0) true) (by simp[r130]))⟩
def r131:Rule:=⟨[.int .i64,.int .i64],[],0,[.cmp .geq (.un 0) (zi 0) true,.cmp .leq (.un 0) (.un 1) true],[⟨[],[],0,[.cus 131 [.un 0,.un 1] [] []]⟩]⟩
theorem r131_ok:RuleOk (RTN f N) r131:=plain_ok rfl fun F hu hf hp r hr=>by
 obtain rfl:=List.mem_singleton.1 hr
 obtain⟨l,hl⟩:=tInt (hu (0,.int .i64) (by simp[r131,numb]))
 obtain⟨w,hw⟩:=tInt (hu (1,.int .i64) (by simp[r131,numb]))
 exact⟨l,w,bOf hl,bOf hw,cGe (bOf hl) (hp (.cmp .geq (.un 0) (zi 0) true) (by simp[r131])),cLe2 (bOf hl) (bOf hw) (hp (.cmp .leq (.un 0) (.un 1) true) (by simp[r131]))⟩
def r132:Rule:=⟨[.int .u64,.int .u64,.int .u64,.int .u64],[],0,[.cmp .eql (.un 0) (.un 2) true,.cmp .eql (.un 1) (.un 3) true],[⟨[],[],0,[.cus 132 [.un 0,.un 1,.un 2,.un 3] [] []]⟩]⟩
theorem r132_ok:RuleOk (RTN f N) r132:=plain_ok rfl fun F hu hf hp r hr=>by
 obtain rfl:=List.mem_singleton.1 hr
 exact⟨cEqA (hp (.cmp .eql (.un 0) (.un 2) true) (by simp[r132])),cEqA (hp (.cmp .eql (.un 1) (.un 3) true) (by simp[r132]))⟩
def r131d:Rule:=⟨[.int .i64,.int .i64],[],0,[.cus 131 [.un 0,.un 1] [] []],[⟨[],[],0,[.cmp .geq (.un 0) (zi 0) true,.cmp .leq (.un 0) (.un 1) true]⟩]⟩
theorem r131d_ok:RuleOk (RTN f N) r131d:=plain_ok rfl fun F hu hf hp r hr=>by
 obtain⟨n,m,h1,h2,h3,h4⟩:=hp (.cus 131 [.un 0,.un 1] [] []) (by simp[r131d])
 simp only[List.mem_cons,List.not_mem_nil,or_false]at hr
 rcases hr with rfl |rfl
 ·exact mkGe h1 h3
 ·exact mkLe2 h1 h2 h4
def r131e(nM:Nat):Rule:=⟨[.nat,.int .i64,.int .u64,.int .u64]++mU,[104,nM],0,[.cus 124 [] [0,1] [],.sr (.ll 0 (.un 0) (shp 2 (i64 2) (.un 1) (.un 2) (.un 3))),.sr (.ll 1 (.un 0) (mC 4))],[⟨[],[],0,[.cus 131 [.un 8,.un 1] [] []]⟩]⟩
theorem r131e_ok{nM:Nat}:RuleOk (RTN f N) (r131e nM):=plain_ok rfl fun F hu hf hp r hr=>by
 obtain rfl:=List.mem_singleton.1 hr
 obtain⟨w,hw⟩:=tInt (hu (1,.int .i64) (by simp[r131e,numb]))
 obtain⟨l,hl⟩:=tInt (hu (8,.int .i64) (by simp[r131e,numb,mU]))
 obtain⟨_,h2⟩:=(hp (.cus 124 [] [0,1] []) (by simp[r131e]):_∧_)
 have h2:whoTo (F.R 0).length (F.R 0) (F.R 1):=h2
 obtain⟨i,g1,g2⟩:=hp (.sr (.ll 0 (.un 0) (shp 2 (i64 2) (.un 1) (.un 2) (.un 3)))) (by simp[r131e])
 have g2:(F.R 0)[i]? =some ((shp 2 (i64 2) (.un 1) (.un 2) (.un 3)).map (@rs F 20)):=g2
 rw[shp_rsk]at g2
 obtain⟨m,m1,m2⟩:=hp (.sr (.ll 1 (.un 0) (mC 4))) (by simp[r131e])
 have e3:i=m:=bas_int_inj g1 m1
 subst e3
 have m2:(F.R 1)[i]? =some [.sc (F.U 4),.sc (F.U 5),.sc (F.U 6),.sc (F.U 7),.sc (F.U 8)]:=m2
 obtain⟨_,h3⟩:=h2 i _ _ (List.getElem?_eq_some_iff.1 g2).1 g2 m2
 obtain⟨l',w',a1,a2,a3,a4⟩:=h3 (by rw[shp0])
 rw[shp1,hw]at a1
 have a1:w=w':=by injection a1 with a1;exact i64_inj a1
 rw[hl]at a2
 have a2:l=l':=by
  have a2:some (i64 l)=some (i64 l'):=a2
  injection a2 with a2;exact i64_inj a2
 subst a1;subst a2
 exact⟨l,w,bOf hl,bOf hw,a3,a4⟩
def RE(n:RN)(nM:Nat):List Rule:=[rSplit,rPk12,rPk34,r123a nM,r123s nM 3,r123s nM 4,r123k nM,r123p nM,r124 nM,r128a,r128b,r127 n.nB,rL127 n.nB,rL124 nM,r125a nM n.nB,r125s nM n.nB 2,r125s nM n.nB 3,r125s nM n.nB 4,r125k nM n.nB,r126 nM n.nB,r130,r131,r132,r131d,r131e nM]
theorem RE_ok{n:RN}{nM:Nat}:∀ R∈RE n nM,RuleOk (RTN f N) R:=
 all_cons rSplit_ok <|all_cons rPk12_ok <|all_cons rPk34_ok <|all_cons r123a_ok <|all_cons (r123s_ok (by decide)) <|all_cons (r123s_ok (by decide)) <|all_cons r123k_ok <|all_cons r123p_ok <|all_cons r124_ok <|all_cons r128a_ok <|all_cons r128b_ok <|all_cons r127_ok <|all_cons rL127_ok <|all_cons rL124_ok <|
 all_cons r125a_ok <|all_cons (r125s_ok (by decide)) <|all_cons (r125s_ok (by decide)) <|all_cons (r125s_ok (by decide)) <|all_cons r125k_ok <|all_cons r126_ok <|all_cons r130_ok <|all_cons r131_ok <|all_cons r132_ok <|all_cons r131d_ok <|all_cons r131e_ok all_nil
def RUE(f:Nat->List Ty)(n:RN)(S:List Nat)(nM:Nat):List Rule:=RUM f n S++RE n nM
theorem RUE_ok{n:RN}{S:List Nat}{nM:Nat}:∀ R∈RUE f n S nM,RuleOk (RTN f N) R:=fun R h=>(List.mem_append.1 h).elim (RUM_ok R) (RE_ok R)
end Go.Eng.Cons
namespace Go.Eng.Cons
open Go.RowKit Go.Eng
variable {f:Nat->List Ty}{N:PN}
theorem cLtK{F:Far}{RT:RTab}{k:IntKind}{a b:IV}{n m:Int}{r:Bool}(ha:@bas F a=.sc (.int k n))(hb:@bas F b=.sc (.int k m))(h:@Rel.Holds F RT (.cmp .lss a b r)):decide (n<m)=r:=by
 obtain⟨_,x,y,h1,h2,h3⟩:=h
 rw[ha]at h1;rw[hb]at h2
 injection h1 with h1;injection h1 with h4 h1
 injection h2 with h2;injection h2 with _ h2
 subst h1;subst h2
 simp only[iInt2,iltI_eq,Option.some.injEq,Value.bool.injEq]at h3
 exact h3
theorem cGtK{F:Far}{RT:RTab}{k:IntKind}{a b:IV}{n m:Int}{r:Bool}(ha:@bas F a=.sc (.int k n))(hb:@bas F b=.sc (.int k m))(h:@Rel.Holds F RT (.cmp .gtr a b r)):decide (m<n)=r:=by
 obtain⟨_,x,y,h1,h2,h3⟩:=h
 rw[ha]at h1;rw[hb]at h2
 injection h1 with h1;injection h1 with h4 h1
 injection h2 with h2;injection h2 with _ h2
 subst h1;subst h2
 simp only[iInt2,iltI_eq,Option.some.injEq,Value.bool.injEq]at h3
 exact h3
def rNN(k:IntKind):Rule:=⟨[.int k],[],0,[.cmp .neq (.un 0) (.un 0) true],[]⟩
theorem rNN_ok{k:IntKind}:RuleOk (RTN f N) (rNN k):=by
 intro F hu hf hp
 exfalso
 obtain⟨_,x,y,h1,h2,h3⟩:=hp (.cmp .neq (.un 0) (.un 0) true) (by simp[rNN])
 rw[h1]at h2
 injection h2 with h2;injection h2 with _ h2
 subst h2
 have h3:some (Value.bool (x != x))=some (Value.bool true):=h3
 simp at h3
def r140a(k:IntKind):Rule:=⟨[.int k,.int k],[],0,[.cmp .lss (.un 0) (.un 1) true],[⟨[],[],0,[.cus 140 [zi (-1),.un 0,.un 1] [] []]⟩]⟩
theorem r140a_ok{k:IntKind}:RuleOk (RTN f N) (r140a k):=plain_ok rfl fun F hu hf hp r hr=>by
 obtain rfl:=List.mem_singleton.1 hr
 obtain⟨n,h0⟩:=tInt (hu (0,.int k) (by simp[r140a,numb]))
 obtain⟨m,h1⟩:=tInt (hu (1,.int k) (by simp[r140a,numb]))
 have h:=of_decide_eq_true (cLtK (bOf h0) (bOf h1) (hp (.cmp .lss (.un 0) (.un 1) true) (by simp[r140a])))
 show i64 (-1)=i64 (cmpI (iv (.sc (F.U 0))) (iv (.sc (F.U 1))))
 rw[h0,h1]
 show i64 (-1)=i64 (cmpI n m)
 rw[cmpI,if_pos h]
def r140b(k:IntKind):Rule:=⟨[.int k,.int k],[],0,[.cmp .gtr (.un 0) (.un 1) true],[⟨[],[],0,[.cus 140 [zi 1,.un 0,.un 1] [] []]⟩]⟩
theorem r140b_ok{k:IntKind}:RuleOk (RTN f N) (r140b k):=plain_ok rfl fun F hu hf hp r hr=>by
 obtain rfl:=List.mem_singleton.1 hr
 obtain⟨n,h0⟩:=tInt (hu (0,.int k) (by simp[r140b,numb]))
 obtain⟨m,h1⟩:=tInt (hu (1,.int k) (by simp[r140b,numb]))
 have h:=of_decide_eq_true (cGtK (bOf h0) (bOf h1) (hp (.cmp .gtr (.un 0) (.un 1) true) (by simp[r140b])))
 show i64 1=i64 (cmpI (iv (.sc (F.U 0))) (iv (.sc (F.U 1))))
 rw[h0,h1]
 show i64 1=i64 (cmpI n m)
 rw[cmpI,if_neg (by omega),if_pos h]
def r140c(k:IntKind):Rule:=⟨[.int k,.int k],[],0,[.cmp .lss (.un 0) (.un 1) false,.cmp .gtr (.un 0) (.un 1) false],[⟨[],[],0,[.cus 140 [zi 0,.un 0,.un 1] [] []]⟩]⟩
theorem r140c_ok{k:IntKind}:RuleOk (RTN f N) (r140c k):=plain_ok rfl fun F hu hf hp r hr=>by
 obtain rfl:=List.mem_singleton.1 hr
 obtain⟨n,h0⟩:=tInt (hu (0,.int k) (by simp[r140c,numb]))
 obtain⟨m,h1⟩:=tInt (hu (1,.int k) (by simp[r140c,numb]))
 have h:=of_decide_eq_false (cLtK (bOf h0) (bOf h1) (hp (.cmp .lss (.un 0) (.un 1) false) (by simp[r140c])))
 have h':=of_decide_eq_false (cGtK (bOf h0) (bOf h1) (hp (.cmp .gtr (.un 0) (.un 1) false) (by simp[r140c])))
 show i64 0=i64 (cmpI (iv (.sc (F.U 0))) (iv (.sc (F.U 1))))
 rw[h0,h1]
 show i64 0=i64 (cmpI n m)
 rw[cmpI,if_neg h,if_neg h']
theorem cNz{F:Far}{RT:RTab}{a:IV}{n:Int}(ha:@bas F a=i64 n){r:Bool}(h:@Rel.Holds F RT (.cmp .neq a (zi 0) r)):r=decide (n≠0):=by
 have:=cNe (c:=0) ha h
 cases r<;>simp_all
theorem or_t{a b:Int}(h:a≠0):orI a b=a:=if_neg h
theorem or_f{a b:Int}(h:a=0):orI a b=b:=if_pos h
section
variable {F:Far}{RT:RTab}{z:IV}{n:Int}
theorem or1(hz:@bas F z=i64 n)(h:@Rel.Holds F RT (.cmp .neq z (zi 0) true))(m:Int):@bas F z=i64 (orI n m):=by
 rw[or_t (by simpa using cNz hz h)];exact hz
theorem or0(hz:@bas F z=i64 n)(h:@Rel.Holds F RT (.cmp .neq z (zi 0) false))(m:Int):orI n m=m:=or_f (by simpa using cNz hz h)
theorem nz0(hz:@bas F z=i64 n)(h:@Rel.Holds F RT (.cmp .neq z (zi 0) false)):n=0:=by simpa using cNz hz h
end
def vU:List Ty:=[.int .u64,.int .u64,.int .u64,.int .u64]
def c142(z:IV):Rel:=.cus 142 [z,.un 0,.un 1,.un 2,.un 3] [] []
def c140(z a b:Nat):Rel:=.cus 140 [.un z,.un a,.un b] [] []
def nz(z:Nat)(r:Bool):Rel:=.cmp .neq (.un z) (zi 0) r
def r142a:Rule:=⟨vU++[.int .i64],[],0,[c140 4 0 2,nz 4 true],[⟨[],[],0,[c142 (.un 4)]⟩]⟩
theorem r142a_ok:RuleOk (RTN f N) r142a:=plain_ok rfl fun F hu hf hp r hr=>by
 obtain rfl:=List.mem_singleton.1 hr
 have h1:@bas F (.un 4)=i64 (cmpI (iv (@bas F (.un 0))) (iv (@bas F (.un 2)))):=hp (c140 4 0 2) (by simp[r142a])
 exact or1 h1 (hp (nz 4 true) (by simp[r142a])) _
def r142b:Rule:=⟨vU++[.int .i64,.int .i64],[],0,[c140 4 0 2,nz 4 false,c140 5 1 3],[⟨[],[],0,[c142 (.un 5)]⟩]⟩
theorem r142b_ok:RuleOk (RTN f N) r142b:=plain_ok rfl fun F hu hf hp r hr=>by
 obtain rfl:=List.mem_singleton.1 hr
 have h1:@bas F (.un 4)=i64 (cmpI (iv (@bas F (.un 0))) (iv (@bas F (.un 2)))):=hp (c140 4 0 2) (by simp[r142b])
 have h2:@bas F (.un 5)=i64 (cmpI (iv (@bas F (.un 1))) (iv (@bas F (.un 3)))):=hp (c140 5 1 3) (by simp[r142b])
 show @bas F (.un 5)=i64 (orI _ _)
 rw[or0 h1 (hp (nz 4 false) (by simp[r142b])),h2]
def r142c:Rule:=⟨vU++[.int .i64,.int .i64],[],0,[c140 4 0 2,nz 4 false,c140 5 1 3,nz 5 false],[⟨[],[],0,[c142 (zi 0)]⟩]⟩
theorem r142c_ok:RuleOk (RTN f N) r142c:=plain_ok rfl fun F hu hf hp r hr=>by
 obtain rfl:=List.mem_singleton.1 hr
 have h1:@bas F (.un 4)=i64 (cmpI (iv (@bas F (.un 0))) (iv (@bas F (.un 2)))):=hp (c140 4 0 2) (by simp[r142c])
 have h2:@bas F (.un 5)=i64 (cmpI (iv (@bas F (.un 1))) (iv (@bas F (.un 3)))):=hp (c140 5 1 3) (by simp[r142c])
 show i64 0=i64 (orI _ _)
 rw[or0 h1 (hp (nz 4 false) (by simp[r142c])),<-nz0 h2 (hp (nz 5 false) (by simp[r142c]))]
def c143(z:IV):Rel:=.cus 143 (z::(mC 0++mC 5)) [] []
def c142k(z a b c d:Nat):Rel:=.cus 142 [.un z,.un a,.un b,.un c,.un d] [] []
def mmU:List Ty:=mU++mU
section
variable {F:Far}
theorem h143{z:IV}(h:@bas F z=i64 (orI (cmpI (iv (@bas F (.un 9))) (iv (@bas F (.un 4)))) (orI (cmpB (@bas F (.un 0)) (@bas F (.un 1)) (@bas F (.un 5)) (@bas F (.un 6))) (cmpB (@bas F (.un 2)) (@bas F (.un 3)) (@bas F (.un 7)) (@bas F (.un 8)))))):@Rel.Holds F (RTN f N) (c143 z):=h
end
def r143a:Rule:=⟨mmU++[.int .i64],[],0,[c140 10 9 4,nz 10 true],[⟨[],[],0,[c143 (.un 10)]⟩]⟩
theorem r143a_ok:RuleOk (RTN f N) r143a:=plain_ok rfl fun F hu hf hp r hr=>by
 obtain rfl:=List.mem_singleton.1 hr
 have h1:@bas F (.un 10)=i64 (cmpI (iv (@bas F (.un 9))) (iv (@bas F (.un 4)))):=hp (c140 10 9 4) (by simp[r143a])
 exact h143 (or1 h1 (hp (nz 10 true) (by simp[r143a])) _)
def r143b:Rule:=⟨mmU++[.int .i64,.int .i64],[],0,[c140 10 9 4,nz 10 false,c142k 11 0 1 5 6,nz 11 true],[⟨[],[],0,[c143 (.un 11)]⟩]⟩
theorem r143b_ok:RuleOk (RTN f N) r143b:=plain_ok rfl fun F hu hf hp r hr=>by
 obtain rfl:=List.mem_singleton.1 hr
 have h1:@bas F (.un 10)=i64 (cmpI (iv (@bas F (.un 9))) (iv (@bas F (.un 4)))):=hp (c140 10 9 4) (by simp[r143b])
 have h2:@bas F (.un 11)=i64 (cmpB (@bas F (.un 0)) (@bas F (.un 1)) (@bas F (.un 5)) (@bas F (.un 6))):=hp (c142k 11 0 1 5 6) (by simp[r143b])
 refine h143 ?_
 rw[or0 h1 (hp (nz 10 false) (by simp[r143b]))]
 exact or1 h2 (hp (nz 11 true) (by simp[r143b])) _
def r143c:Rule:=⟨mmU++[.int .i64,.int .i64,.int .i64],[],0,[c140 10 9 4,nz 10 false,c142k 11 0 1 5 6,nz 11 false,c142k 12 2 3 7 8],[⟨[],[],0,[c143 (.un 12)]⟩]⟩
theorem r143c_ok:RuleOk (RTN f N) r143c:=plain_ok rfl fun F hu hf hp r hr=>by
 obtain rfl:=List.mem_singleton.1 hr
 have h1:@bas F (.un 10)=i64 (cmpI (iv (@bas F (.un 9))) (iv (@bas F (.un 4)))):=hp (c140 10 9 4) (by simp[r143c])
 have h2:@bas F (.un 11)=i64 (cmpB (@bas F (.un 0)) (@bas F (.un 1)) (@bas F (.un 5)) (@bas F (.un 6))):=hp (c142k 11 0 1 5 6) (by simp[r143c])
 have h3:@bas F (.un 12)=i64 (cmpB (@bas F (.un 2)) (@bas F (.un 3)) (@bas F (.un 7)) (@bas F (.un 8))):=hp (c142k 12 2 3 7 8) (by simp[r143c])
 refine h143 ?_
 rw[or0 h1 (hp (nz 10 false) (by simp[r143c])),or0 h2 (hp (nz 11 false) (by simp[r143c])),h3]
def r143d:Rule:=⟨mmU++[.int .i64,.int .i64,.int .i64],[],0,[c140 10 9 4,nz 10 false,c142k 11 0 1 5 6,nz 11 false,c142k 12 2 3 7 8,nz 12 false],[⟨[],[],0,[c143 (zi 0)]⟩]⟩
theorem r143d_ok:RuleOk (RTN f N) r143d:=plain_ok rfl fun F hu hf hp r hr=>by
 obtain rfl:=List.mem_singleton.1 hr
 have h1:@bas F (.un 10)=i64 (cmpI (iv (@bas F (.un 9))) (iv (@bas F (.un 4)))):=hp (c140 10 9 4) (by simp[r143d])
 have h2:@bas F (.un 11)=i64 (cmpB (@bas F (.un 0)) (@bas F (.un 1)) (@bas F (.un 5)) (@bas F (.un 6))):=hp (c142k 11 0 1 5 6) (by simp[r143d])
 have h3:@bas F (.un 12)=i64 (cmpB (@bas F (.un 2)) (@bas F (.un 3)) (@bas F (.un 7)) (@bas F (.un 8))):=hp (c142k 12 2 3 7 8) (by simp[r143d])
 refine h143 ?_
 rw[or0 h1 (hp (nz 10 false) (by simp[r143d])),or0 h2 (hp (nz 11 false) (by simp[r143d])),nz0 h3 (hp (nz 12 false) (by simp[r143d]))]
 rfl
def r144a(nM:Nat):Rule:=⟨[],[nM,nM],0,[],[⟨[],[],0,[.cus 144 [zi 0] [0,1] []]⟩]⟩
theorem r144a_ok{nM:Nat}:RuleOk (RTN f N) (r144a nM):=plain_ok rfl fun F hu hf hp r hr=>by
 obtain rfl:=List.mem_singleton.1 hr
 exact⟨0,rfl,Nat.zero_le _,Nat.zero_le _,rfl⟩
theorem cmpL_drop{A B:List (List IV)}{n:Nat}{x y:List IV}(h1:A[n]? =some x)(h2:B[n]? =some y):cmpL (A.drop n) (B.drop n)=orI (cmpM x y) (cmpL (A.drop (n+1)) (B.drop (n+1))):=by
 obtain⟨l1,e1⟩:=List.getElem?_eq_some_iff.1 h1
 obtain⟨l2,e2⟩:=List.getElem?_eq_some_iff.1 h2
 rw[List.drop_eq_getElem_cons l1,List.drop_eq_getElem_cons l2,e1,e2]
 rfl
def rowsR:List Rel:=[.cus 144 [.un 10] [0,1] [],.sr (.ll 0 (.un 10) (mC 0)),.sr (.ll 1 (.un 10) (mC 5)),c143 (.un 11)]
theorem rows_ok{F:Far}(hp:∀ r∈rowsR,@Rel.Holds F (RTN f N) r):∃ (n:Nat)(m:Int),@bas F (.un 10)=i64 n∧n<(F.R 0).length∧n<(F.R 1).length∧@bas F (.un 11)=i64 m∧cmpL (F.R 0) (F.R 1)=orI m (cmpL ((F.R 0).drop (n+1)) ((F.R 1).drop (n+1))):=by
 obtain⟨n,h1,h2,h3,h4⟩:=hp (.cus 144 [.un 10] [0,1] []) (by simp[rowsR])
 have h4:cmpL (F.R 0) (F.R 1)=cmpL ((F.R 0).drop n) ((F.R 1).drop n):=h4
 obtain⟨i,g1,g2⟩:=hp (.sr (.ll 0 (.un 10) (mC 0))) (by simp[rowsR])
 have e:n=i:=bas_int_inj h1 g1
 subst e
 obtain⟨i,k1,k2⟩:=hp (.sr (.ll 1 (.un 10) (mC 5))) (by simp[rowsR])
 have e:n=i:=bas_int_inj h1 k1
 subst e
 have q:@bas F (.un 11)=i64 (cmpM ((mC 0).map (@rs F 20)) ((mC 5).map (@rs F 20))):=hp (c143 (.un 11)) (by simp[rowsR])
 refine⟨n,_,h1,(List.getElem?_eq_some_iff.1 g2).1,(List.getElem?_eq_some_iff.1 k2).1,q,?_⟩
 rw[h4,cmpL_drop g2 k2]
def r144s(nM:Nat):Rule:=⟨mmU++[.nat,.int .i64,.nat],[nM,nM],0,rowsR++[nz 11 false,.succ (.un 12) (.un 10)],[⟨[],[],0,[.cus 144 [.un 12] [0,1] []]⟩]⟩
theorem r144s_ok{nM:Nat}:RuleOk (RTN f N) (r144s nM):=plain_ok rfl fun F hu hf hp r hr=>by
 obtain rfl:=List.mem_singleton.1 hr
 obtain⟨n,m,h1,h2,h3,h4,h5⟩:=rows_ok fun r hr=>hp r (List.mem_append_left _ hr)
 obtain⟨x,g4,g5⟩:=hp (.succ (.un 12) (.un 10)) (by simp[r144s])
 have e2:=int_inj h1 g4
 refine⟨n+1,by rw[g5,<-e2];rfl,h2,h3,?_⟩
 show cmpL (F.R 0) (F.R 1)=_
 rw[h5,or0 h4 (hp (nz 11 false) (by simp[r144s]))]
def r145a(nM:Nat):Rule:=⟨mmU++[.nat,.int .i64],[nM,nM],0,rowsR++[nz 11 true],[⟨[],[],0,[.cus 145 [.un 11] [0,1] []]⟩]⟩
theorem r145a_ok{nM:Nat}:RuleOk (RTN f N) (r145a nM):=plain_ok rfl fun F hu hf hp r hr=>by
 obtain rfl:=List.mem_singleton.1 hr
 obtain⟨n,m,h1,h2,h3,h4,h5⟩:=rows_ok fun r hr=>hp r (List.mem_append_left _ hr)
 show @bas F (.un 11)=i64 (cmpL (F.R 0) (F.R 1))
 rw[h5]
 exact or1 h4 (hp (nz 11 true) (by simp[r145a])) _
def r145b(nM:Nat):Rule:=⟨[.nat,.nat,.nat],[nM,nM],0,[.cus 144 [.un 0] [0,1] [],.len (.un 1) 0,.cmp .lss (.un 0) (.un 1) true,.len (.un 2) 1,.cmp .geq (.un 0) (.un 2) true],[⟨[],[],0,[.cus 145 [zi 1] [0,1] []]⟩]⟩
theorem cGe2{F:Far}{RT:RTab}{a b:IV}{n m:Int}(ha:@bas F a=.sc (.int .i64 n))(hb:@bas F b=.sc (.int .i64 m))(h:@Rel.Holds F RT (.cmp .geq a b true)):m<=n:=by
 obtain⟨k,x,y,h1,h2,h3⟩:=h
 rw[ha]at h1;rw[hb]at h2
 injection h1 with h1;injection h1 with h4 h1
 injection h2 with h2;injection h2 with _ h2
 subst h1;subst h2
 simp only[iInt2,iltI_eq,Option.some.injEq,Value.bool.injEq,Bool.not_eq_true',decide_eq_false_iff_not,Int.not_lt]at h3
 exact h3
theorem r145b_ok{nM:Nat}:RuleOk (RTN f N) (r145b nM):=plain_ok rfl fun F hu hf hp r hr=>by
 obtain rfl:=List.mem_singleton.1 hr
 obtain⟨i,h0,_⟩:=tNat (hu (0,.nat) (by simp[r145b,numb]))
 obtain⟨a,h1,_⟩:=tNat (hu (1,.nat) (by simp[r145b,numb]))
 obtain⟨b,h2,_⟩:=tNat (hu (2,.nat) (by simp[r145b,numb]))
 obtain⟨n,g1,g2,g3,g4⟩:=hp (.cus 144 [.un 0] [0,1] []) (by simp[r145b])
 have g3:n<=(F.R 1).length:=g3
 have e:n=i:=nOf g1 h0
 subst e
 have k1:=lenN (bOf h1) (hp (.len (.un 1) 0) (by simp[r145b]))
 have k2:=lenN (bOf h2) (hp (.len (.un 2) 1) (by simp[r145b]))
 have k3:=of_decide_eq_true (cLt (bOf h0) (bOf h1) (hp (.cmp .lss (.un 0) (.un 1) true) (by simp[r145b])))
 have k4:=cGe2 (bOf h0) (bOf h2) (hp (.cmp .geq (.un 0) (.un 2) true) (by simp[r145b]))
 show i64 1=i64 (cmpL (F.R 0) (F.R 1))
 have g4:cmpL (F.R 0) (F.R 1)=cmpL ((F.R 0).drop n) ((F.R 1).drop n):=g4
 have l1:n<(F.R 0).length:=by omega
 rw[g4,List.drop_eq_getElem_cons l1,List.drop_eq_nil_of_le (show (F.R 1).length<=n by omega)]
 rfl
def r145c(nM:Nat)(r:Bool)(z:Int):Rule:=⟨[.nat,.nat,.nat],[nM,nM],0,[.cus 144 [.un 0] [0,1] [],.len (.un 1) 0,.cmp .lss (.un 0) (.un 1) false,.len (.un 2) 1,.cmp .lss (.un 1) (.un 2) r],[⟨[],[],0,[.cus 145 [zi z] [0,1] []]⟩]⟩
theorem r145c_ok{nM:Nat}{r:Bool}{z:Int}(hz:z=if r=true then -1 else 0):RuleOk (RTN f N) (r145c nM r z):=plain_ok rfl fun F hu hf hp r' hr=>by
 obtain rfl:=List.mem_singleton.1 hr
 obtain⟨i,h0,_⟩:=tNat (hu (0,.nat) (by simp[r145c,numb]))
 obtain⟨a,h1,_⟩:=tNat (hu (1,.nat) (by simp[r145c,numb]))
 obtain⟨b,h2,_⟩:=tNat (hu (2,.nat) (by simp[r145c,numb]))
 obtain⟨n,g1,g2,g3,g4⟩:=hp (.cus 144 [.un 0] [0,1] []) (by simp[r145c])
 have g2:n<=(F.R 0).length:=g2
 have g3:n<=(F.R 1).length:=g3
 have e:n=i:=nOf g1 h0
 subst e
 have k1:=lenN (bOf h1) (hp (.len (.un 1) 0) (by simp[r145c]))
 have k2:=lenN (bOf h2) (hp (.len (.un 2) 1) (by simp[r145c]))
 have k3:=of_decide_eq_false (cLt (bOf h0) (bOf h1) (hp (.cmp .lss (.un 0) (.un 1) false) (by simp[r145c])))
 have k4:=cLt (bOf h1) (bOf h2) (hp (.cmp .lss (.un 1) (.un 2) r) (by simp[r145c]))
 show i64 z=i64 (cmpL (F.R 0) (F.R 1))
 have g4:cmpL (F.R 0) (F.R 1)=cmpL ((F.R 0).drop n) ((F.R 1).drop n):=g4
 rw[g4,List.drop_eq_nil_of_le (show (F.R 0).length<=n by omega),hz]
 cases r with
 |true=>
  have k4:=of_decide_eq_true k4
  have l1:n<(F.R 1).length:=by omega
  rw[List.drop_eq_getElem_cons l1]
  rfl
 |false=>
  have k4:=of_decide_eq_false k4
  rw[List.drop_eq_nil_of_le (show (F.R 1).length<=n by omega)]
  rfl
def c146(z:IV):Rel:=.cus 146 [z,.un 0,.un 1] [0,1] []
def r146a(nM:Nat):Rule:=⟨[.int .i64,.int .i64,.int .i64],[nM,nM],0,[c140 2 1 0,nz 2 true],[⟨[],[],0,[c146 (.un 2)]⟩]⟩
theorem r146a_ok{nM:Nat}:RuleOk (RTN f N) (r146a nM):=plain_ok rfl fun F hu hf hp r hr=>by
 obtain rfl:=List.mem_singleton.1 hr
 have h1:@bas F (.un 2)=i64 (cmpI (iv (@bas F (.un 1))) (iv (@bas F (.un 0)))):=hp (c140 2 1 0) (by simp[r146a])
 exact or1 h1 (hp (nz 2 true) (by simp[r146a])) _
def r146b(nM:Nat):Rule:=⟨[.int .i64,.int .i64,.int .i64,.int .i64],[nM,nM],0,[c140 2 1 0,nz 2 false,.cus 145 [.un 3] [0,1] []],[⟨[],[],0,[c146 (.un 3)]⟩]⟩
theorem r146b_ok{nM:Nat}:RuleOk (RTN f N) (r146b nM):=plain_ok rfl fun F hu hf hp r hr=>by
 obtain rfl:=List.mem_singleton.1 hr
 have h1:@bas F (.un 2)=i64 (cmpI (iv (@bas F (.un 1))) (iv (@bas F (.un 0)))):=hp (c140 2 1 0) (by simp[r146b])
 have h2:@bas F (.un 3)=i64 (cmpL (F.R 0) (F.R 1)):=hp (.cus 145 [.un 3] [0,1] []) (by simp[r146b])
 show @bas F (.un 3)=i64 (orI _ _)
 rw[or0 h1 (hp (nz 2 false) (by simp[r146b])),h2]
def r146c(nM:Nat):Rule:=⟨[.int .i64,.int .i64,.int .i64,.int .i64],[nM,nM],0,[c140 2 1 0,nz 2 false,.cus 145 [.un 3] [0,1] [],nz 3 false],[⟨[],[],0,[c146 (zi 0)]⟩]⟩
theorem r146c_ok{nM:Nat}:RuleOk (RTN f N) (r146c nM):=plain_ok rfl fun F hu hf hp r hr=>by
 obtain rfl:=List.mem_singleton.1 hr
 have h1:@bas F (.un 2)=i64 (cmpI (iv (@bas F (.un 1))) (iv (@bas F (.un 0)))):=hp (c140 2 1 0) (by simp[r146c])
 have h2:@bas F (.un 3)=i64 (cmpL (F.R 0) (F.R 1)):=hp (.cus 145 [.un 3] [0,1] []) (by simp[r146c])
 show i64 0=i64 (orI _ _)
 rw[or0 h1 (hp (nz 2 false) (by simp[r146c]))]
 exact congrArg i64 (nz0 h2 (hp (nz 3 false) (by simp[r146c]))).symm
def rGl:Rule:=⟨[.int .i64,.int .i64],[],0,[.cmp .geq (.un 0) (.un 1) false],[⟨[],[],0,[.cmp .lss (.un 0) (.un 1) true]⟩]⟩
theorem rGl_ok:RuleOk (RTN f N) rGl:=plain_ok rfl fun F hu hf hp r hr=>by
 obtain rfl:=List.mem_singleton.1 hr
 obtain⟨k,x,y,h1,h2,h3⟩:=hp (.cmp .geq (.un 0) (.un 1) false) (by simp[rGl])
 refine⟨k,x,y,h1,h2,?_⟩
 simp only[iInt2,Option.some.injEq,Value.bool.injEq]at h3 ⊢
 simpa using h3
def RO(nM:Nat):List Rule:=[rNN .i64,rNN .u64,r140a .i64,r140a .u64,r140b .i64,r140b .u64,r140c .i64,r140c .u64,r142a,r142b,r142c,r143a,r143b,r143c,r143d,r144a nM,r144s nM,r145a nM,r145b nM,r145c nM true (-1),r145c nM false 0,r146a nM,r146b nM,r146c nM,rGl]
theorem RO_ok{nM:Nat}:∀ R∈RO nM,RuleOk (RTN f N) R:=
 all_cons rNN_ok <|all_cons rNN_ok <|all_cons r140a_ok <|all_cons r140a_ok <|all_cons r140b_ok <|all_cons r140b_ok <|all_cons r140c_ok <|all_cons r140c_ok <|all_cons r142a_ok <|all_cons r142b_ok <|all_cons r142c_ok <|all_cons r143a_ok <|all_cons r143b_ok <|all_cons r143c_ok <|all_cons r143d_ok <|
 all_cons r144a_ok <|all_cons r144s_ok <|all_cons r145a_ok <|all_cons r145b_ok <|all_cons (r145c_ok rfl) <|all_cons (r145c_ok rfl) <|all_cons r146a_ok <|all_cons r146b_ok <|all_cons r146c_ok <|all_cons rGl_ok all_nil
def RUO(f:Nat->List Ty)(n:RN)(S:List Nat)(nM:Nat):List Rule:=RUE f n S nM++RO nM
theorem RUO_ok{n:RN}{S:List Nat}{nM:Nat}:∀ R∈RUO f n S nM,RuleOk (RTN f N) R:=fun R h=>(List.mem_append.1 h).elim (RUE_ok R) (RO_ok R)
end Go.Eng.Cons
namespace Go.Eng.Cons
open Go.RowKit Go.Eng
structure Law{α:Type}(c:α->α->Int):Prop where
 anti:∀ a b,c a b= - c b a
 trans:∀ a b d,c a b<=0->c b d<=0->c a d<=0
section
variable {α β:Type}{c c':α->α->Int}
theorem Law.refl(h:Law c)(a:α):c a a=0:=by have:=h.anti a a;omega
theorem Law.lt_le(h:Law c){a b d:α}(h1:c a b<0)(h2:c b d<=0):c a d<0:=by
 have h3:=h.trans a b d (by omega) h2
 rcases Int.lt_or_eq_of_le h3 with h4 |h4
 ·exact h4
 ·have h5:=h.anti d a
  have h6:=h.trans b d a h2 (by omega)
  have h7:=h.anti a b
  omega
theorem Law.comap(h:Law c)(g:β->α):Law (fun a b=>c (g a) (g b)):=⟨fun a b=>h.anti _ _,fun a b d=>h.trans _ _ _⟩
theorem Law.flip(h:Law c):Law (fun a b=>c b a):=⟨fun a b=>h.anti b a,fun a b d h1 h2=>h.trans d b a h2 h1⟩
theorem Law.or(h:Law c)(h':Law c'):Law (fun a b=>orI (c a b) (c' a b)):=by
 refine⟨fun a b=> ?_,fun a b d h1 h2=> ?_⟩
 ·have e:=h.anti a b
  by_cases h0:c a b=0
  ·rw[or_f h0,or_f (by omega)];exact h'.anti a b
  ·rw[or_t h0,or_t (by omega)];exact e
 ·by_cases h0:c a b=0
  ·rw[or_f h0]at h1
   by_cases k0:c b d=0
   ·rw[or_f k0]at h2
    have q1:=h.trans a b d (by omega) (by omega)
    have q2:=h.trans d b a (by have:=h.anti d b;omega) (by have:=h.anti b a;omega)
    have q3:=h.anti a d
    rw[or_f (by omega)]
    exact h'.trans a b d h1 h2
   ·rw[or_t k0]at h2
    have q1:=h.trans a b d (by omega) h2
    have q2:c a d≠0:=fun e=>by
     have:=h.trans d a b (by have:=h.anti d a;omega) (by omega)
     have:=h.anti b d
     omega
    rw[or_t q2];exact q1
  ·rw[or_t h0]at h1
   have h1:c a b<0:=by omega
   have hbd:c b d<=0:=by
    by_cases k0:c b d=0
    ·omega
    ·rw[or_t k0]at h2;exact h2
   have q:=h.lt_le h1 hbd
   rw[or_t (by omega)];omega
end
theorem cmpI_law:Law cmpI:=by
 refine⟨fun a b=> ?_,fun a b d=> ?_⟩
 ·unfold cmpI;split<;>split<;>first |omega |(split<;>omega)
 ·unfold cmpI;intro h1 h2
  split at h1<;>split at h2<;>(try split at h1)<;>(try split at h2)<;>first |omega |(split<;>first |omega |(split<;>omega))
theorem iv_law(g:List IV->IV):Law (fun x y=>cmpI (iv (g x)) (iv (g y))):=cmpI_law.comap (fun x=>iv (g x))
theorem cmpM_law:Law cmpM:=
 ((iv_law (fun x=>x.getD 4 .junk)).flip).or (((iv_law (fun x=>x.getD 0 .junk)).or (iv_law (fun x=>x.getD 1 .junk))).or ((iv_law (fun x=>x.getD 2 .junk)).or (iv_law (fun x=>x.getD 3 .junk))))
theorem cmpL_anti:∀ a b,cmpL a b= - cmpL b a:=by
 intro a
 induction a with
 |nil=>intro b;cases b<;>rfl
 |cons x l ih=>
  intro b
  cases b with
  |nil=>rfl
  |cons y m=>
   have e:=cmpM_law.anti x y
   show orI (cmpM x y) (cmpL l m)= - orI (cmpM y x) (cmpL m l)
   by_cases h0:cmpM x y=0
   ·rw[or_f h0,or_f (by omega)];exact ih m
   ·rw[or_t h0,or_t (by omega)];exact e
theorem cmpL_trans:∀ a b d,cmpL a b<=0->cmpL b d<=0->cmpL a d<=0:=by
 intro a
 induction a with
 |nil=>intro b d _ _;cases d<;>simp[cmpL]
 |cons x l ih=>
  intro b d h1 h2
  cases b with
  |nil=>simp[cmpL]at h1
  |cons y m=>
   cases d with
   |nil=>simp[cmpL]at h2
   |cons z k=>
    have h1:orI (cmpM x y) (cmpL l m)<=0:=h1
    have h2:orI (cmpM y z) (cmpL m k)<=0:=h2
    show orI (cmpM x z) (cmpL l k)<=0
    have hle:∀ {p q:Int},orI p q<=0->p<=0:=fun{p q} h=>by
     by_cases hp:p=0
     ·omega
     ·rw[or_t hp]at h;exact h
    have e1:=hle h1
    have e2:=hle h2
    have e3:=cmpM_law.trans x y z e1 e2
    by_cases h0:cmpM x z=0
    ·rw[or_f h0]
     have k1:cmpM x y=0:=by
      by_cases hk:cmpM x y=0
      ·exact hk
      ·have:=cmpM_law.lt_le (a:=x) (b:=y) (d:=z) (by omega) e2
       omega
     have k2:cmpM y z=0:=by
      have a1:=cmpM_law.trans z x y (by have:=cmpM_law.anti z x;omega) e1
      have:=cmpM_law.anti y z
      omega
     rw[or_f k1]at h1
     rw[or_f k2]at h2
     exact ih m k h1 h2
    ·rw[or_t h0];exact e3
theorem cmpL_law:Law cmpL:=⟨cmpL_anti,cmpL_trans⟩
def ordP(a b:IV×List (List IV)):Int:=ordE a.1 b.1 a.2 b.2
theorem ordP_law:Law ordP:=((cmpI_law.comap (fun a:IV×List (List IV)=>iv a.1)).flip).or (cmpL_law.comap (fun a:IV×List (List IV)=>a.2))
theorem ordE_anti(p q:IV)(A B:List (List IV)):ordE p q A B= - ordE q p B A:=ordP_law.anti (p,A) (q,B)
theorem ordE_refl(p:IV)(A:List (List IV)):ordE p p A A=0:=ordP_law.refl (p,A)
theorem ordE_lt_le{p q r:IV}{A B C:List (List IV)}(h1:ordE p q A B<0)(h2:ordE q r B C<=0):ordE p r A C<0:=ordP_law.lt_le (a:=(p,A)) (b:=(q,B)) (d:=(r,C)) h1 h2
theorem cmpL_at:∀ {A B:List (List IV)}{j:Nat}{x y:List IV},A[j]? =some x->B[j]? =some y->(∀(q:Nat)(u v:List IV),q<j->A[q]? =some u->B[q]? =some v->cmpM u v=0)->cmpM x y=1->cmpL A B=1:=by
 intro A
 induction A with
 |nil=>intro B j x y h;simp at h
 |cons u l ih=>
  intro B j x y h1 h2 h3 h4
  cases B with
  |nil=>simp at h2
  |cons v m=>
   show orI (cmpM u v) (cmpL l m)=1
   cases j with
   |zero=>
    simp only[List.getElem?_cons_zero,Option.some.injEq]at h1 h2
    rw[h1,h2,or_t (by omega),h4]
   |succ j=>
    simp only[List.getElem?_cons_succ]at h1 h2
    rw[or_f (h3 0 u v (by omega) rfl rfl)]
    exact ih h1 h2 (fun q a b hq ha hb=>h3 (q+1) a b (by omega) (by simpa using ha) (by simpa using hb)) h4
theorem cntP_two:∀ {l:List (List IV)}{i j:Nat}{x y:List IV},cntP l<=1->i<j->l[i]? =some x->l[j]? =some y->isP x=true->isP y=true->False:=by
 intro l
 induction l with
 |nil=>intro i j x y _ _ h;simp at h
 |cons z l ih=>
  intro i j x y h hij hx hy px py
  cases j with
  |zero=>omega
  |succ j=>
   simp only[List.getElem?_cons_succ]at hy
   have hm:1<=cntP l:=by
    unfold cntP
    have:y∈l.filter isP:=List.mem_filter.2 ⟨List.mem_of_getElem? hy,py⟩
    exact List.length_pos_of_mem this
   cases i with
   |zero=>
    simp only[List.getElem?_cons_zero,Option.some.injEq]at hx
    subst hx
    have:cntP (z::l)=cntP l+1:=by simp[cntP,List.filter_cons,px]
    omega
   |succ i=>
    simp only[List.getElem?_cons_succ]at hx
    refine ih (i:=i) (j:=j) ?_ (by omega) hx hy px py
    have:cntP l<=cntP (z::l):=by
     simp only[cntP,List.filter_cons];split<;>simp
    omega
theorem isP_kk{r:List IV}(h:kk r=some 2):isP r=true:=by
 unfold kk at h
 split at h
 ·injection h with h;subst h;rfl
 ·cases h
theorem longest{e:Fns}{S:List (List (List IV))}{a p p' c c':IV}{M M' R R' Y K:List (List IV)}(hK:keysAt e.at_ S a K)(h3:¬ anyOf 3 K)(h4:¬ anyOf 4 K)
 (h1:hitP e S a M p c R Y) (h2:hitP e S a M' p' c' R' Y) (ho:ordE p p' M M'<=0) {j:Nat} {kr x y:List IV} (hj:K[j]? =some kr) (hkr:kk kr=some 2) (hx:M[j]? =some x) (hy:M'[j]? =some y):iv (y.getD 4 .junk)<=iv (x.getD 4 .junk):=by
 have atI:∀ {K1 K2},keysAt e.at_ S a K1->keysAt e.at_ S a K2->K1=K2:=fun{K1 K2} ⟨k,t,row,q1,q2,q3,q4⟩ ⟨k',t',row',q1',q2',q3',q4'⟩=>by
  rw[q1]at q1'
  have e1:k=k':=by injection q1' with q1' _;injection q1' with _ q1';injection q1' with q1' _;have:=i64_inj q1';omega
  subst e1
  rw[q2]at q2';injection q2' with q2';subst q2'
  rw[q3]at q3';injection q3' with q3';subst q3'
  rw[q4]at q4';injection q4' with q4';injection q4' with q4'
 obtain⟨us,K1,A,G,P,t1,_,_,_,k1,hkeys,b1,l1,y1,w1,g1,n,r,e1,e2,e3⟩:=h1
 obtain⟨us',K2,A',G',P',t2,_,_,_,k2,_,b2,l2,y2,w2,g2,n',r',e1',e2',e3'⟩:=h2
 have:=atI hK k1;subst this
 have:=atI hK k2;subst this
 have hPP:P'=P:=by
  obtain⟨_,_,_,_,_,_,_,q1⟩:=t1
  obtain⟨_,_,_,_,_,_,_,q2⟩:=t2
  rw[q1]at q2
  injection q2 with _ q2
  injection q2 with _ q2;injection q2 with _ q2;injection q2 with _ q2;injection q2 with q2
  exact q2.symm
 subst hPP
 have z:r=false:=by
  cases r with
  |false=>rfl
  |true=>exact((e2 rfl).elim h3 h4).elim
 have z':r'=false:=by
  cases r' with
  |false=>rfl
  |true=>exact((e2' rfl).elim h3 h4).elim
 have n0:=e3 z
 have n0':=e3' z'
 rw[e1,e1',n0,n0']at ho
 have ho:cmpL M M'<=0:=ho
 obtain⟨bl,ble,bp⟩:=b1
 have same:∀ (q:Nat) (u v:List IV),q<j->M[q]? =some u->M'[q]? =some v->cmpM u v=0:=fun q u v hq hu hv=>by
  have hqM:=(List.getElem?_eq_some_iff.1 hu).1
  have hP:q<P'.length:=by omega
  have hQ:q<K.length:=by omega
  have hYq:q<Y.length:=by omega
  have gp:=List.getElem?_eq_getElem hP
  have gk:=List.getElem?_eq_getElem hQ
  have gy:=List.getElem?_eq_getElem hYq
  obtain⟨k,w,hh,ll,c1,c4,w0,w1',kr',pr'⟩:=bp q _ _ gp gk
  have hk1:k=1:=by
   have n2:k≠2:=fun h=>by
    subst h
    exact cntP_two hkeys.2 hq gk hj (isP_kk kr') (isP_kk hkr)
   have n3:k≠3:=fun h=>h3 ⟨_,List.getElem_mem hQ,by rw[kr',h];rfl⟩
   have n4:k≠4:=fun h=>h4 ⟨_,List.getElem_mem hQ,by rw[kr',h];rfl⟩
   omega
  subst hk1
  have p0:(P'[q]'hP)[0]? =some (i64 1):=by rw[pr',shp0];rfl
  obtain⟨a1,b1,m1⟩:=(w1 q _ _ hP gp hu).1 p0
  obtain⟨a2,b2,m2⟩:=(w2 q _ _ hP gp hv).1 p0
  obtain⟨x1,x2,s1,s2,s3⟩:=g1 q _ _ _ hP gp hu gy p0
  obtain⟨x1',x2',s1',s2',s3'⟩:=g2 q _ _ _ hP gp hv gy p0
  rw[s1]at s1'
  injection s1' with t1 s1';injection s1' with t2 _
  subst t1;subst t2
  rw[m1]at s2 s3
  rw[m2]at s2' s3'
  simp only[List.getElem?_cons_zero,List.getElem?_cons_succ,Option.some.injEq]at s2 s3 s2' s3'
  have:u=v:=by rw[m1,m2,s2,s3,s2',s3']
  rw[this];exact cmpM_law.refl v
 by_cases hlt:iv (x.getD 4 .junk)<iv (y.getD 4 .junk)
 ·exfalso
  have:cmpM x y=1:=by
   have e:cmpI (iv (y.getD 4 .junk)) (iv (x.getD 4 .junk))=1:=by
    unfold cmpI;rw[if_neg (by omega),if_pos hlt]
   unfold cmpM
   rw[e];rfl
  have:=cmpL_at hx hy same this
  omega
 ·omega
end Go.Eng.Cons
namespace Go.Eng.Cons
open Go.RowKit Go.Eng
variable {f:Nat->List Ty}{N:PN}
def altB(b:Bool):Int:=if b then 1 else 2
def bv(b:Bool):IV:=.sc (.bool b)
def tU:List Ty:=[sB,sB,.int .i64,sB,.boo,.nat,.int .i64,sB,.nat]
def tF(S:List Nat)(nK nA nB nM:Nat):List Nat:=S++[nK,nA,nB,104,nM,nB,nB]
def rTab(b:Bool):Rel:=.cus 51 [.un 0,zi (altB b),.un 1,.un 2,.un 3,.un 4,.un 5] [0,1,2,3,4,5,6,7,8,9] []
def rWho(b:Bool)(z:List IV):Rel:=.cus 52 ([.un 1,.un 2,.un 3,.un 4,bv b,.un 6,.un 7]++z) [6,7,8,9,10,11] []
def rKey(b:Bool)(z:Int):Rel:=.cus 53 [.un 1,.un 2,.un 3,.un 4,bv b,zi z] [6,7,8,9,12] []
def rHit(b:Bool)(z:Int):Rel:=.cus 54 [.un 1,.un 2,.un 3,.un 4,bv b,.un 6,.un 7,zi z] [6,7,8,9,10,11,12] []
def c234:Rel:=.cus 234 [.un 0,.un 6,.un 7] [0,1,2,3,4,5,10,11,12] []
def c235:Rel:=.cus 235 [.un 0,.un 6,.un 7] [0,1,2,3,4,5,10,11,12] []
section
variable {F:Far}
def uL(F:Far)(b:Bool):List IV:=[@bas F (.un 1),@bas F (.un 2),@bas F (.un 3),@bas F (.un 4),bv b]
def sixL(F:Far):List (List (List IV)):=[F.R 0,F.R 1,F.R 2,F.R 3,F.R 4,F.R 5]
theorem tab_of{b:Bool}(h:@Rel.Holds F (RTN f N) (rTab b)):tabOf (fnsOf N.d) (sixL F) (@bas F (.un 0)) (uL F b) [F.R 6,F.R 7,F.R 8,F.R 9]:=⟨b,_,_,_,_,_,rfl,h⟩
theorem tab_inj{e:Fns}{S:List (List (List IV))}{a:IV}{us us':List IV}{fs fs':List (List (List IV))}(h:tabOf e S a us fs)(h':tabOf e S a us' fs'):us=us'∧fs=fs':=by
 obtain⟨b,n,s,x,y,l,rfl,q⟩:=h
 obtain⟨b',n',s',x',y',l',rfl,q'⟩:=h'
 rw[q]at q'
 injection q' with q1 q2
 injection q1 with q1 q3
 injection q3 with q3 q4;injection q4 with q4 q5;injection q5 with q5 q6;injection q6 with q6 _
 have hb:=i64_inj q1
 have:b=b':=by cases b<;>cases b'<;>simp at hb<;>rfl
 subst this
 exact⟨by rw[q3,q4,q5,q6],q2⟩
end
def r234(S:List Nat)(nK nA nB nM:Nat)(b:Bool):Rule:=⟨tU,tF S nK nA nB nM,0,[rTab b,rHit b 1,rWho b [zi 1],rKey b 1,.cus 32 [.un 0] [0,1,2,3,4,5,6] [],.cus 12 [] [6] [],.cus 117 [] [9,6] [],.cus 124 [] [9,10] [],.cus 127 [] [9,12] [],.cus 126 [] [9,10,12] [],.cus 128 [.un 6,bv b] [] [],.cus 129 [bv b] [6] []],[⟨[],[],0,[c234]⟩]⟩
theorem r234_ok{S:List Nat}{nK nA nB nM:Nat}{b:Bool}:RuleOk (RTN f N) (r234 S nK nA nB nM b):=plain_ok rfl fun F hu hf hp r hr=>by
 obtain rfl:=List.mem_singleton.1 hr
 have h1:=tab_of (hp (rTab b) (by simp[r234]))
 have h2:N.d 54 (uL F b++[@bas F (.un 6),@bas F (.un 7)]) [F.R 6,F.R 7,F.R 8,F.R 9,F.R 10,F.R 11,F.R 12]=([i64 1],[]):=hp (rHit b 1) (by simp[r234])
 have h3:N.d 52 (uL F b++[@bas F (.un 6),@bas F (.un 7)]) [F.R 6,F.R 7,F.R 8,F.R 9,F.R 10,F.R 11]=([i64 1],[]):=hp (rWho b [zi 1]) (by simp[r234])
 have h4:N.d 53 (uL F b) [F.R 6,F.R 7,F.R 8,F.R 9,F.R 12]=([i64 1],[]):=hp (rKey b 1) (by simp[r234])
 obtain⟨k,t,row,l,a1,a2,a3,a4,a5⟩:=hp (.cus 32 [.un 0] [0,1,2,3,4,5,6] []) (by simp[r234])
 have a5:some (F.R 6)=some l:=a5
 injection a5 with a5
 subst a5
 have h5:keysAt (N.d 50) (sixL F) (@bas F (.un 0)) (F.R 6):=⟨k,t,row,a1,a2,a3,a4⟩
 have h6:keysOk (F.R 6):=hp (.cus 12 [] [6] []) (by simp[r234])
 have h7:partsOf (F.R 9) (F.R 6):=hp (.cus 117 [] [9,6] []) (by simp[r234])
 obtain⟨h8,h9⟩:(F.R 10).length=(F.R 9).length∧whoTo (F.R 9).length (F.R 9) (F.R 10):=hp (.cus 124 [] [9,10] []) (by simp[r234])
 have h10:(F.R 12).length=(F.R 9).length:=hp (.cus 127 [] [9,12] []) (by simp[r234])
 have h11:hitTo (F.R 9).length (F.R 9) (F.R 10) (F.R 12):=hp (.cus 126 [] [9,10,12] []) (by simp[r234])
 obtain⟨n,r,q1,q2,q3⟩:=hp (.cus 128 [.un 6,bv b] [] []) (by simp[r234])
 have h12:bv b=.sc (.bool true)->anyOf 3 (F.R 6)∨anyOf 4 (F.R 6):=hp (.cus 129 [bv b] [6] []) (by simp[r234])
 have q2:b=r:=by injection q2 with q2;injection q2
 subst q2
 exact⟨_,_,_,_,_,h1,h4,h3,h2,h5,h6,h7,h8,h10,h9,h11,n,b,q1,fun h=>h12 (by rw[h];rfl),q3⟩
def r235t(S:List Nat)(nM nB:Nat):Rule:=⟨[sB,.nat,.int .i64,sB],S++[nM,nB,nB],0,[.cus 51 [.un 0,zi 0,.un 1] [0,1,2,3,4,5] []],[⟨[],[],0,[.cus 235 [.un 0,.un 2,.un 3] [0,1,2,3,4,5,6,7,8] []]⟩]⟩
theorem no_tab{e:Fns}{S:List (List (List IV))}{a z:IV}(h:e.tab [a] S=([i64 0,z],[])){us:List IV}{fs:List (List (List IV))}(ht:tabOf e S a us fs):False:=by
 obtain⟨b,n,s,x,y,l,rfl,q⟩:=ht
 rw[h]at q
 injection q with q _;injection q with q _
 have:=i64_inj q
 cases b<;>simp at this
theorem r235t_ok{S:List Nat}{nM nB:Nat}:RuleOk (RTN f N) (r235t S nM nB):=plain_ok rfl fun F hu hf hp r hr=>by
 obtain rfl:=List.mem_singleton.1 hr
 have h1:N.d 51 [@bas F (.un 0)] (sixL F)=([i64 0,@bas F (.un 1)],[]):=hp (.cus 51 [.un 0,zi 0,.un 1] [0,1,2,3,4,5] []) (by simp[r235t])
 rintro⟨us,K,A,G,P,ht,_⟩
 exact no_tab (e:=fnsOf N.d) h1 ht
def r235k(S:List Nat)(nK nA nB nM:Nat)(b:Bool):Rule:=⟨tU,tF S nK nA nB nM,0,[rTab b,rKey b 0],[⟨[],[],0,[c235]⟩]⟩
theorem one_zero{x:List IV×List (List (List IV))}{l:List IV}(h1:x=([i64 1],[]))(h2:x=(i64 0::l,[])):False:=by
 rw[h1]at h2
 injection h2 with h2 _;injection h2 with h2 _
 have:=i64_inj h2
 omega
theorem r235k_ok{S:List Nat}{nK nA nB nM:Nat}{b:Bool}:RuleOk (RTN f N) (r235k S nK nA nB nM b):=plain_ok rfl fun F hu hf hp r hr=>by
 obtain rfl:=List.mem_singleton.1 hr
 have h1:=tab_of (hp (rTab b) (by simp[r235k]))
 have h4:N.d 53 (uL F b) [F.R 6,F.R 7,F.R 8,F.R 9,F.R 12]=([i64 0],[]):=hp (rKey b 0) (by simp[r235k])
 rintro⟨us,K,A,G,P,ht,hk,_⟩
 obtain⟨rfl,e⟩:=tab_inj h1 ht
 injection e with e1 e;injection e with e2 e;injection e with e3 e;injection e with e4 _
 subst e1;subst e2;subst e3;subst e4
 exact one_zero hk h4
def r235w(S:List Nat)(nK nA nB nM:Nat)(b:Bool):Rule:=⟨tU,tF S nK nA nB nM,0,[rTab b,rWho b [zi 0,.un 8]],[⟨[],[],0,[c235]⟩]⟩
theorem r235w_ok{S:List Nat}{nK nA nB nM:Nat}{b:Bool}:RuleOk (RTN f N) (r235w S nK nA nB nM b):=plain_ok rfl fun F hu hf hp r hr=>by
 obtain rfl:=List.mem_singleton.1 hr
 have h1:=tab_of (hp (rTab b) (by simp[r235w]))
 have h4:N.d 52 (uL F b++[@bas F (.un 6),@bas F (.un 7)]) [F.R 6,F.R 7,F.R 8,F.R 9,F.R 10,F.R 11]=([i64 0,@bas F (.un 8)],[]):=hp (rWho b [zi 0,.un 8]) (by simp[r235w])
 rintro⟨us,K,A,G,P,ht,_,hk,_⟩
 obtain⟨rfl,e⟩:=tab_inj h1 ht
 injection e with e1 e;injection e with e2 e;injection e with e3 e;injection e with e4 _
 subst e1;subst e2;subst e3;subst e4
 exact one_zero hk h4
def r235h(S:List Nat)(nK nA nB nM:Nat)(b:Bool):Rule:=⟨tU,tF S nK nA nB nM,0,[rTab b,rHit b 0],[⟨[],[],0,[c235]⟩]⟩
theorem r235h_ok{S:List Nat}{nK nA nB nM:Nat}{b:Bool}:RuleOk (RTN f N) (r235h S nK nA nB nM b):=plain_ok rfl fun F hu hf hp r hr=>by
 obtain rfl:=List.mem_singleton.1 hr
 have h1:=tab_of (hp (rTab b) (by simp[r235h]))
 have h4:N.d 54 (uL F b++[@bas F (.un 6),@bas F (.un 7)]) [F.R 6,F.R 7,F.R 8,F.R 9,F.R 10,F.R 11,F.R 12]=([i64 0],[]):=hp (rHit b 0) (by simp[r235h])
 rintro⟨us,K,A,G,P,ht,_,_,hk,_⟩
 obtain⟨rfl,e⟩:=tab_inj h1 ht
 injection e with e1 e;injection e with e2 e;injection e with e3 e;injection e with e4 _
 subst e1;subst e2;subst e3;subst e4
 exact one_zero hk h4
def bU:List Ty:=[.nat,.int .i64,sB,.int .i64,sB,.nat,.int .i64,.int .i64,sB]
def bF(S:List Nat)(nE nB nM:Nat):List Nat:=S++[nE,nB,nM,nB,nM,nB]
def rowC(M p c R:Nat):List IV:=[.fu M,.un p,.un c,.fu R]
def c236(i b:IV):Rel:=.cus 236 [i,b,.un 2] [0,1,2,3,4,5,6,7] []
def hit9(k:Nat):Rel:=.cus k [.un 2,.un 3,.un 4] [0,1,2,3,4,5,8,9,7] []
def llI:Rel:=.sr (.ll 6 (.un 0) (rowC 8 3 4 9))
def llB:Rel:=.sr (.ll 6 (.un 1) (rowC 10 7 8 11))
def cOrd:Rel:=.cus 146 [.un 6,.un 3,.un 7] [8,10] []
def scI:Rel:=.succ (.un 5) (.un 0)
section
variable {F:Far}
abbrev e5(N:PN):Fns:=fnsOf N.d
theorem ll_row{i n:Nat}{M p c R L:Nat}(hi:@bas F (.un i)=i64 n)(h:@Rel.Holds F (RTN f N) (.sr (.ll L (.un i) (rowC M p c R)))):(F.R L)[n]? =some (rowE (F.R M) (@bas F (.un p)) (@bas F (.un c)) (F.R R)):=by
 obtain⟨m,h1,h2⟩:=h
 have e:n=m:=bas_int_inj hi h1
 subst e
 exact h2
theorem row_inj{M M' R R':List (List IV)}{p p' c c':IV}(h:rowE M p c R=rowE M' p' c' R'):M=M'∧p=p'∧c=c'∧R=R':=by
 injection h with h1 h;injection h with h2 h;injection h with h3 h;injection h with h4 _
 injection h1 with h1;injection h4 with h4
 exact⟨h1,h2,h3,h4⟩
end
def r236a(S:List Nat)(nE nB:Nat):Rule:=⟨[sB],S++[nE,nB],0,[],[⟨[],[],0,[.cus 236 [zi 0,zi (-1),.un 0] [0,1,2,3,4,5,6,7] []]⟩]⟩
theorem r236a_ok{S:List Nat}{nE nB:Nat}:RuleOk (RTN f N) (r236a S nE nB):=plain_ok rfl fun F hu hf hp r hr=>by
 obtain rfl:=List.mem_singleton.1 hr
 exact⟨0, -1,rfl,rfl,.inl ⟨rfl,fun q M p c R hq=>absurd hq (Nat.not_lt_zero _)⟩⟩
theorem best_no{e:Fns}{S:List (List (List IV))}{a:IV}{L Y M R:List (List IV)}{p c:IV}{n:Nat}{b:Int}(h:bestTo e S a L Y n b)(hl:L[n]? =some (rowE M p c R))(hh:¬ hitP e S a M p c R Y):bestTo e S a L Y (n+1) b:=by
 rcases h with⟨hb,h⟩ |⟨m,M',p',c',R',hb,hm,hL,hh',h⟩
 ·refine .inl ⟨hb,fun q M2 p2 c2 R2 hq hq2=> ?_⟩
  by_cases e:q=n
  ·subst e
   rw[hl]at hq2;injection hq2 with hq2
   obtain⟨rfl,rfl,rfl,rfl⟩:=row_inj hq2
   exact hh
  ·exact h q M2 p2 c2 R2 (by omega) hq2
 ·refine .inr ⟨m,M',p',c',R',hb,by omega,hL,hh',fun q M2 p2 c2 R2 hq hq2 hq3=> ?_⟩
  by_cases e:q=n
  ·subst e
   rw[hl]at hq2;injection hq2 with hq2
   obtain⟨rfl,rfl,rfl,rfl⟩:=row_inj hq2
   exact absurd hq3 hh
  ·exact h q M2 p2 c2 R2 (by omega) hq2 hq3
theorem best_first{e:Fns}{S:List (List (List IV))}{a:IV}{L Y M R:List (List IV)}{p c:IV}{n:Nat}{b:Int}(h:bestTo e S a L Y n b)(hb0:b<0)(hl:L[n]? =some (rowE M p c R))(hh:hitP e S a M p c R Y):bestTo e S a L Y (n+1) n:=by
 rcases h with⟨hb,h⟩ |⟨m,M',p',c',R',hb,hm,hL,hh',h⟩
 ·refine .inr ⟨n,M,p,c,R,rfl,by omega,hl,hh,fun q M2 p2 c2 R2 hq hq2 hq3=> ?_⟩
  by_cases e:q=n
  ·subst e
   rw[hl]at hq2;injection hq2 with hq2
   obtain⟨rfl,rfl,rfl,rfl⟩:=row_inj hq2
   exact .inr ⟨ordE_refl _ _,Nat.le_refl _⟩
  ·exact absurd hq3 (h q M2 p2 c2 R2 (by omega) hq2)
 ·omega
theorem best_new{e:Fns}{S:List (List (List IV))}{a:IV}{L Y M R Mb Rb:List (List IV)}{p c pb cb:IV}{n:Nat}{b k:Int}(h:bestTo e S a L Y n b)(hl:L[n]? =some (rowE M p c R))(hh:hitP e S a M p c R Y)(hb0:∃ k:Nat,b=k∧L[k]? =some (rowE Mb pb cb Rb))(ho:ordE p pb M Mb<0):bestTo e S a L Y (n+1) n:=by
 obtain⟨k,hk,hkL⟩:=hb0
 rcases h with⟨hb,h⟩ |⟨m,M',p',c',R',hb,hm,hL,hh',h⟩
 ·omega
 ·have e:m=k:=by omega
  subst e
  rw[hL]at hkL;injection hkL with hkL
  obtain⟨rfl,rfl,rfl,rfl⟩:=row_inj hkL
  refine .inr ⟨n,M,p,c,R,rfl,by omega,hl,hh,fun q M2 p2 c2 R2 hq hq2 hq3=> ?_⟩
  by_cases e:q=n
  ·subst e
   rw[hl]at hq2;injection hq2 with hq2
   obtain⟨rfl,rfl,rfl,rfl⟩:=row_inj hq2
   exact .inr ⟨ordE_refl _ _,Nat.le_refl _⟩
  ·refine .inl (ordE_lt_le ho ?_)
   rcases h q M2 p2 c2 R2 (by omega) hq2 hq3 with h |h<;>omega
theorem best_old{e:Fns}{S:List (List (List IV))}{a:IV}{L Y M R Mb Rb:List (List IV)}{p c pb cb:IV}{n:Nat}{b k:Int}(h:bestTo e S a L Y n b)(hl:L[n]? =some (rowE M p c R))(hb0:∃ k:Nat,b=k∧L[k]? =some (rowE Mb pb cb Rb))(ho:¬ ordE p pb M Mb<0):bestTo e S a L Y (n+1) b:=by
 obtain⟨k,hk,hkL⟩:=hb0
 rcases h with⟨hb,h⟩ |⟨m,M',p',c',R',hb,hm,hL,hh',h⟩
 ·omega
 ·have e:m=k:=by omega
  subst e
  rw[hL]at hkL;injection hkL with hkL
  obtain⟨rfl,rfl,rfl,rfl⟩:=row_inj hkL
  refine .inr ⟨m,M',p',c',R',hb,by omega,hL,hh',fun q M2 p2 c2 R2 hq hq2 hq3=> ?_⟩
  by_cases e:q=n
  ·subst e
   rw[hl]at hq2;injection hq2 with hq2
   obtain⟨rfl,rfl,rfl,rfl⟩:=row_inj hq2
   have:=ordE_anti p p' M M'
   by_cases h0:ordE p' p M' M<0
   ·exact .inl h0
   ·exact .inr ⟨by omega,by omega⟩
  ·exact h q M2 p2 c2 R2 (by omega) hq2 hq3
def r236n(S:List Nat)(nE nB nM:Nat):Rule:=⟨bU,bF S nE nB nM,0,[c236 (.un 0) (.un 1),llI,hit9 235,scI],[⟨[],[],0,[c236 (.un 5) (.un 1)]⟩]⟩
def r236f(S:List Nat)(nE nB nM:Nat):Rule:=⟨bU,bF S nE nB nM,0,[c236 (.un 0) (.un 1),llI,hit9 234,.cmp .lss (.un 1) (zi 0) true,scI],[⟨[],[],0,[c236 (.un 5) (.un 0)]⟩]⟩
def r236b(S:List Nat)(nE nB nM:Nat):Rule:=⟨bU,bF S nE nB nM,0,[c236 (.un 0) (.un 1),llI,hit9 234,llB,cOrd,.cmp .lss (.un 6) (zi 0) true,scI],[⟨[],[],0,[c236 (.un 5) (.un 0)]⟩]⟩
def r236k(S:List Nat)(nE nB nM:Nat):Rule:=⟨bU,bF S nE nB nM,0,[c236 (.un 0) (.un 1),llI,llB,cOrd,.cmp .lss (.un 6) (zi 0) false,scI],[⟨[],[],0,[c236 (.un 5) (.un 1)]⟩]⟩
section
variable {F:Far}
theorem h236{i b:IV}(h:@Rel.Holds F (RTN f N) (c236 i b)):∃ (n:Nat)(m:Int),@bas F i=i64 n∧@bas F b=i64 m∧bestTo (e5 N) (sixL F) (@bas F (.un 2)) (F.R 6) (F.R 7) n m:=h
theorem m236{i b:IV}{n:Nat}{m:Int}(h1:@bas F i=i64 n)(h2:@bas F b=i64 m)(h:bestTo (e5 N) (sixL F) (@bas F (.un 2)) (F.R 6) (F.R 7) n m):@Rel.Holds F (RTN f N) (c236 i b):=⟨n,m,h1,h2,h⟩
theorem sc_next{a b:IV}{n:Nat}(hb:@bas F b=i64 n)(h:@Rel.Holds F (RTN f N) (.succ a b)):@bas F a=i64 ((n+1:Nat):Int):=by
 obtain⟨x,g4,g5⟩:=h
 have e2:=int_inj hb g4
 rw[g5,<-e2];rfl
theorem llB_k{m:Int}(hb:@bas F (.un 1)=i64 m)(h:@Rel.Holds F (RTN f N) llB):∃ k:Nat,m=k∧(F.R 6)[k]? =some (rowE (F.R 10) (@bas F (.un 7)) (@bas F (.un 8)) (F.R 11)):=by
 obtain⟨k,h1,h2⟩:=h
 have e:m=k:=i64_inj (hb.symm.trans h1)
 exact⟨k,e,h2⟩
theorem h_ord(h:@Rel.Holds F (RTN f N) cOrd):@bas F (.un 6)=i64 (ordE (@bas F (.un 3)) (@bas F (.un 7)) (F.R 8) (F.R 10)):=h
end
theorem r236n_ok{S:List Nat}{nE nB nM:Nat}:RuleOk (RTN f N) (r236n S nE nB nM):=plain_ok rfl fun F hu hf hp r hr=>by
 obtain rfl:=List.mem_singleton.1 hr
 obtain⟨n,m,h1,h2,h3⟩:=h236 (hp (c236 (.un 0) (.un 1)) (by simp[r236n]))
 exact m236 (sc_next h1 (hp scI (by simp[r236n]))) h2 (best_no h3 (ll_row h1 (hp llI (by simp[r236n]))) (hp (hit9 235) (by simp[r236n])))
theorem r236f_ok{S:List Nat}{nE nB nM:Nat}:RuleOk (RTN f N) (r236f S nE nB nM):=plain_ok rfl fun F hu hf hp r hr=>by
 obtain rfl:=List.mem_singleton.1 hr
 obtain⟨n,m,h1,h2,h3⟩:=h236 (hp (c236 (.un 0) (.un 1)) (by simp[r236f]))
 have hm:=of_decide_eq_true (cLt h2 (show @bas F (zi 0)=.sc (.int .i64 0)from rfl) (hp (.cmp .lss (.un 1) (zi 0) true) (by simp[r236f])))
 exact m236 (sc_next h1 (hp scI (by simp[r236f]))) h1 (best_first h3 hm (ll_row h1 (hp llI (by simp[r236f]))) (hp (hit9 234) (by simp[r236f])))
theorem r236b_ok{S:List Nat}{nE nB nM:Nat}:RuleOk (RTN f N) (r236b S nE nB nM):=plain_ok rfl fun F hu hf hp r hr=>by
 obtain rfl:=List.mem_singleton.1 hr
 obtain⟨n,m,h1,h2,h3⟩:=h236 (hp (c236 (.un 0) (.un 1)) (by simp[r236b]))
 have hz:=of_decide_eq_true (cLt (h_ord (hp cOrd (by simp[r236b]))) (show @bas F (zi 0)=.sc (.int .i64 0)from rfl) (hp (.cmp .lss (.un 6) (zi 0) true) (by simp[r236b])))
 exact m236 (sc_next h1 (hp scI (by simp[r236b]))) h1 (best_new (k:=0) h3 (ll_row h1 (hp llI (by simp[r236b]))) (hp (hit9 234) (by simp[r236b])) (llB_k h2 (hp llB (by simp[r236b]))) hz)
theorem r236k_ok{S:List Nat}{nE nB nM:Nat}:RuleOk (RTN f N) (r236k S nE nB nM):=plain_ok rfl fun F hu hf hp r hr=>by
 obtain rfl:=List.mem_singleton.1 hr
 obtain⟨n,m,h1,h2,h3⟩:=h236 (hp (c236 (.un 0) (.un 1)) (by simp[r236k]))
 have hz:=of_decide_eq_false (cLt (h_ord (hp cOrd (by simp[r236k]))) (show @bas F (zi 0)=.sc (.int .i64 0)from rfl) (hp (.cmp .lss (.un 6) (zi 0) false) (by simp[r236k])))
 exact m236 (sc_next h1 (hp scI (by simp[r236k]))) h2 (best_old (k:=0) h3 (ll_row h1 (hp llI (by simp[r236k]))) (llB_k h2 (hp llB (by simp[r236k]))) hz)
theorem best_idx{e:Fns}{S:List (List (List IV))}{a:IV}{L Y:List (List IV)}{n:Nat}{b:Int}(h:bestTo e S a L Y n b): -1<=b∧b<L.length:=by
 rcases h with⟨hb,_⟩ |⟨m,M',p',c',R',hb,hm,hL,_,_⟩
 ·omega
 ·have:=(List.getElem?_eq_some_iff.1 hL).1
  omega
def rBidx(S:List Nat)(nE nB:Nat):Rule:=⟨[.nat,.int .i64,sB],S++[nE,nB],0,[c236 (.un 0) (.un 1)],[⟨[],[],0,[.idx (.un 1) 6]⟩]⟩
theorem rBidx_ok{S:List Nat}{nE nB:Nat}:RuleOk (RTN f N) (rBidx S nE nB):=plain_ok rfl fun F hu hf hp r hr=>by
 obtain rfl:=List.mem_singleton.1 hr
 obtain⟨n,m,h1,h2,h3⟩:=h236 (hp (c236 (.un 0) (.un 1)) (by simp[rBidx]))
 obtain⟨a,b⟩:=best_idx h3
 exact⟨m,h2,a,b⟩
def c237(b a:IV)(L Y:Nat):Rel:=.cus 237 [b,a] [0,1,2,3,4,5,L,Y] []
def r237(S:List Nat)(nE nB:Nat):Rule:=⟨[.nat,.int .i64,sB,.nat],S++[nE,nB],0,[c236 (.un 0) (.un 1),.len (.un 3) 6,.cmp .lss (.un 0) (.un 3) false],[⟨[],[],0,[c237 (.un 1) (.un 2) 6 7]⟩]⟩
theorem best_all{e:Fns}{S:List (List (List IV))}{a:IV}{L Y:List (List IV)}{n:Nat}{b:Int}(h:bestTo e S a L Y n b)(hn:L.length<=n):bestTo e S a L Y L.length b:=by
 rcases h with⟨hb,h⟩ |⟨m,M',p',c',R',hb,hm,hL,hh',h⟩
 ·exact .inl ⟨hb,fun q M p c R hq=>h q M p c R (by omega)⟩
 ·exact .inr ⟨m,M',p',c',R',hb,(List.getElem?_eq_some_iff.1 hL).1,hL,hh',fun q M p c R hq=>h q M p c R (by omega)⟩
theorem r237_ok{S:List Nat}{nE nB:Nat}:RuleOk (RTN f N) (r237 S nE nB):=plain_ok rfl fun F hu hf hp r hr=>by
 obtain rfl:=List.mem_singleton.1 hr
 obtain⟨l,hl,_⟩:=tNat (hu (3,.nat) (by simp[r237,numb]))
 obtain⟨n,m,h1,h2,h3⟩:=h236 (hp (c236 (.un 0) (.un 1)) (by simp[r237]))
 have g1:=lenN (bOf hl) (hp (.len (.un 3) 6) (by simp[r237]))
 have g2:=of_decide_eq_false (cLt h1 (bOf hl) (hp (.cmp .lss (.un 0) (.un 3) false) (by simp[r237])))
 exact⟨m,h2,best_all h3 (by omega)⟩
def r237t(S:List Nat)(nE nB:Nat):Rule:=⟨[sB,.nat],S++[nE,nB],0,[.cus 51 [.un 0,zi 0,.un 1] [0,1,2,3,4,5] []],[⟨[],[],0,[c237 (zi (-1)) (.un 0) 6 7]⟩]⟩
theorem r237t_ok{S:List Nat}{nE nB:Nat}:RuleOk (RTN f N) (r237t S nE nB):=plain_ok rfl fun F hu hf hp r hr=>by
 obtain rfl:=List.mem_singleton.1 hr
 have h1:N.d 51 [@bas F (.un 0)] (sixL F)=([i64 0,@bas F (.un 1)],[]):=hp (.cus 51 [.un 0,zi 0,.un 1] [0,1,2,3,4,5] []) (by simp[r237t])
 refine⟨-1,rfl,.inl ⟨rfl,fun q M p c R _ _=> ?_⟩⟩
 rintro⟨us,K,A,G,P,ht,_⟩
 exact no_tab (e:=fnsOf N.d) h1 ht
def r237k(S:List Nat)(nK nA nB nE:Nat)(b:Bool):Rule:=⟨[sB,sB,.int .i64,sB,.boo,.nat],S++[nK,nA,nB,104,nE,nB,nB],0,[rTab b,rKey b 0],[⟨[],[],0,[c237 (zi (-1)) (.un 0) 10 12]⟩]⟩
theorem r237k_ok{S:List Nat}{nK nA nB nE:Nat}{b:Bool}:RuleOk (RTN f N) (r237k S nK nA nB nE b):=plain_ok rfl fun F hu hf hp r hr=>by
 obtain rfl:=List.mem_singleton.1 hr
 have h1:=tab_of (hp (rTab b) (by simp[r237k]))
 have h4:N.d 53 (uL F b) [F.R 6,F.R 7,F.R 8,F.R 9,F.R 12]=([i64 0],[]):=hp (rKey b 0) (by simp[r237k])
 refine⟨-1,rfl,.inl ⟨rfl,fun q M p c R _ _=> ?_⟩⟩
 rintro⟨us,K,A,G,P,ht,hk,_⟩
 obtain⟨rfl,e⟩:=tab_inj h1 ht
 injection e with e1 e;injection e with e2 e;injection e with e3 e;injection e with e4 _
 subst e1;subst e2;subst e3;subst e4
 exact one_zero hk h4
def lU:List Ty:=[.int .i64,sB,.nat,.int .i64,sB,.int .i64,sB,.int .i64,.nat]
def lF0(S:List Nat)(nE nB nM:Nat):List Nat:=S++[nE,nB,nM,nB]
def lF1(S:List Nat)(nE nB nM:Nat):List Nat:=S++[nE,nB,nM,nB,nM,nB]
def lF(S:List Nat)(nE nB nM nK:Nat):List Nat:=S++[nE,nB,nM,nB,nM,nB,nK]
def k237:Rel:=c237 (.un 0) (.un 1) 6 7
def lHit(k:Nat):Rel:=.cus k [.un 1,.un 3,.un 4] [0,1,2,3,4,5,8,9,7] []
def lI:Rel:=.sr (.ll 6 (.un 2) (rowC 8 3 4 9))
def lK:Rel:=.sr (.ll 6 (.un 0) (rowC 10 5 6 11))
def lOrd:Rel:=.cus 146 [.un 7,.un 5,.un 3] [10,8] []
section
variable {F:Far}
theorem h237(h:@Rel.Holds F (RTN f N) k237):∃ m:Int,@bas F (.un 0)=i64 m∧bestTo (e5 N) (sixL F) (@bas F (.un 1)) (F.R 6) (F.R 7) (F.R 6).length m:=h
end
def rM1(S:List Nat)(nE nB:Nat):Rule:=⟨[.int .i64,sB],S++[nE,nB],0,[k237,.cmp .lss (.un 0) (zi (-1)) true],[]⟩
theorem rM1_ok{S:List Nat}{nE nB:Nat}:RuleOk (RTN f N) (rM1 S nE nB):=by
 intro F hu hf hp
 exfalso
 obtain⟨m,h1,h2⟩:=h237 (hp k237 (by simp[rM1]))
 have:=of_decide_eq_true (cLt h1 (show @bas F (zi (-1))=.sc (.int .i64 (-1))from rfl) (hp (.cmp .lss (.un 0) (zi (-1)) true) (by simp[rM1])))
 have:=best_idx h2
 omega
def rM2(S:List Nat)(nE nB:Nat):Rule:=⟨[.int .i64,sB,.nat],S++[nE,nB],0,[k237,.len (.un 2) 6,.cmp .geq (.un 0) (.un 2) true],[]⟩
theorem rM2_ok{S:List Nat}{nE nB:Nat}:RuleOk (RTN f N) (rM2 S nE nB):=by
 intro F hu hf hp
 exfalso
 obtain⟨l,hl,_⟩:=tNat (hu (2,.nat) (by simp[rM2,numb]))
 obtain⟨m,h1,h2⟩:=h237 (hp k237 (by simp[rM2]))
 have g1:=lenN (bOf hl) (hp (.len (.un 2) 6) (by simp[rM2]))
 have:=cGe2 h1 (bOf hl) (hp (.cmp .geq (.un 0) (.un 2) true) (by simp[rM2]))
 have:=best_idx h2
 omega
theorem best_some{e:Fns}{S:List (List (List IV))}{a:IV}{L Y M R:List (List IV)}{p c:IV}{n i:Nat}{b:Int}(h:bestTo e S a L Y n b)(hn:i<n)(hl:L[i]? =some (rowE M p c R))(hh:hitP e S a M p c R Y):
 ∃(m:Nat) (M':List (List IV)) (p' c':IV) (R':List (List IV)),b=m∧L[m]? =some (rowE M' p' c' R')∧hitP e S a M' p' c' R' Y∧(ordE p' p M' M<0∨(ordE p' p M' M=0∧m<=i)):=by
 rcases h with⟨hb,h⟩ |⟨m,M',p',c',R',hb,hm,hL,hh',h⟩
 ·exact absurd hh (h i M p c R hn hl)
 ·exact⟨m,M',p',c',R',hb,hL,hh',h i M p c R hn hl hh⟩
def rM3(S:List Nat)(nE nB nM:Nat):Rule:=⟨lU,lF0 S nE nB nM,0,[k237,lHit 234,lI,.cmp .lss (.un 0) (zi 0) true],[]⟩
section
variable {F:Far}
theorem lI_row(h:@Rel.Holds F (RTN f N) lI):∃ i:Nat,@bas F (.un 2)=i64 i∧(F.R 6)[i]? =some (rowE (F.R 8) (@bas F (.un 3)) (@bas F (.un 4)) (F.R 9))∧i<(F.R 6).length:=by
 obtain⟨i,h1,h2⟩:=h
 exact⟨i,h1,h2,(List.getElem?_eq_some_iff.1 h2).1⟩
theorem lK_row{m:Int}(hb:@bas F (.un 0)=i64 m)(h:@Rel.Holds F (RTN f N) lK):∃ k:Nat,m=k∧(F.R 6)[k]? =some (rowE (F.R 10) (@bas F (.un 5)) (@bas F (.un 6)) (F.R 11)):=by
 obtain⟨k,h1,h2⟩:=h
 exact⟨k,i64_inj (hb.symm.trans h1),h2⟩
end
theorem rM3_ok{S:List Nat}{nE nB nM:Nat}:RuleOk (RTN f N) (rM3 S nE nB nM):=by
 intro F hu hf hp
 exfalso
 obtain⟨m,h1,h2⟩:=h237 (hp k237 (by simp[rM3]))
 obtain⟨i,_,h4,h5⟩:=lI_row (hp lI (by simp[rM3]))
 obtain⟨k,_,_,_,_,e,_⟩:=best_some h2 h5 h4 (hp (lHit 234) (by simp[rM3]))
 have:=of_decide_eq_true (cLt h1 (show @bas F (zi 0)=.sc (.int .i64 0)from rfl) (hp (.cmp .lss (.un 0) (zi 0) true) (by simp[rM3])))
 omega
def rM4(S:List Nat)(nE nB nM:Nat):Rule:=⟨lU,lF0 S nE nB nM,0,[k237,lHit 235,lI,.cmp .eql (.un 2) (.un 0) true],[]⟩
theorem rM4_ok{S:List Nat}{nE nB nM:Nat}:RuleOk (RTN f N) (rM4 S nE nB nM):=by
 intro F hu hf hp
 exfalso
 obtain⟨m,h1,h2⟩:=h237 (hp k237 (by simp[rM4]))
 obtain⟨i,h3,h4,h5⟩:=lI_row (hp lI (by simp[rM4]))
 have e:=cEqA (hp (.cmp .eql (.un 2) (.un 0) true) (by simp[rM4]))
 rw[h3,h1]at e
 have e:=i64_inj e
 rcases h2 with⟨hb,_⟩ |⟨k,M',p',c',R',hb,hm,hL,hh',_⟩
 ·omega
 ·have:k=i:=by omega
  subst this
  rw[h4]at hL;injection hL with hL
  obtain⟨q1,q2,q3,q4⟩:=row_inj hL
  have hn:¬ hitP (e5 N) (sixL F) (@bas F (.un 1)) (F.R 8) (@bas F (.un 3)) (@bas F (.un 4)) (F.R 9) (F.R 7):=hp (lHit 235) (by simp[rM4])
  rw[q1,q2,q3,q4]at hn
  exact hn hh'
def rM5(S:List Nat)(nE nB:Nat):Rule:=⟨[.int .i64,sB],S++[nE,nB],0,[k237],[⟨[],[],0,[.idx (.un 0) 6]⟩]⟩
theorem rM5_ok{S:List Nat}{nE nB:Nat}:RuleOk (RTN f N) (rM5 S nE nB):=plain_ok rfl fun F hu hf hp r hr=>by
 obtain rfl:=List.mem_singleton.1 hr
 obtain⟨m,h1,h2⟩:=h237 (hp k237 (by simp[rM5]))
 obtain⟨a,b⟩:=best_idx h2
 exact⟨m,h1,a,b⟩
def rM6(S:List Nat)(nE nB nM:Nat):Rule:=⟨lU,lF1 S nE nB nM,0,[k237,lHit 234,lI,lK,lOrd,.cmp .gtr (.un 7) (zi 0) true],[]⟩
theorem two_rows{F:Far}(h237':@Rel.Holds F (RTN f N) k237)(hh:@Rel.Holds F (RTN f N) (lHit 234))(hi:@Rel.Holds F (RTN f N) lI)(hk:@Rel.Holds F (RTN f N) lK):
 ∃i k:Nat,@bas F (.un 2)=i64 i∧@bas F (.un 0)=i64 k∧hitP (e5 N) (sixL F) (@bas F (.un 1)) (F.R 10) (@bas F (.un 5)) (@bas F (.un 6)) (F.R 11) (F.R 7)∧
  (ordE (@bas F (.un 5)) (@bas F (.un 3)) (F.R 10) (F.R 8)<0∨(ordE (@bas F (.un 5)) (@bas F (.un 3)) (F.R 10) (F.R 8)=0∧k<=i)):=by
 obtain⟨m,h1,h2⟩:=h237 h237'
 obtain⟨i,h3,h4,h5⟩:=lI_row hi
 obtain⟨k,e1,h6⟩:=lK_row h1 hk
 obtain⟨k',M',p',c',R',e2,h7,h8,h9⟩:=best_some h2 h5 h4 hh
 have:k=k':=by omega
 subst this
 rw[h6]at h7;injection h7 with h7
 obtain⟨q1,q2,q3,q4⟩:=row_inj h7
 subst q1;subst q2;subst q3;subst q4
 exact⟨i,k,h3,by rw[h1,e1],h8,h9⟩
theorem cGtZ{F:Far}{RT:RTab}{a b:IV}{n m:Int}(ha:@bas F a=i64 n)(hb:@bas F b=i64 m)(h:@Rel.Holds F RT (.cmp .gtr a b true)):m<n:=of_decide_eq_true (cGtK ha hb h)
theorem rM6_ok{S:List Nat}{nE nB nM:Nat}:RuleOk (RTN f N) (rM6 S nE nB nM):=by
 intro F hu hf hp
 exfalso
 obtain⟨i,k,_,_,_,h⟩:=two_rows (hp k237 (by simp[rM6])) (hp (lHit 234) (by simp[rM6])) (hp lI (by simp[rM6])) (hp lK (by simp[rM6]))
 have ho:@bas F (.un 7)=i64 (ordE (@bas F (.un 5)) (@bas F (.un 3)) (F.R 10) (F.R 8)):=hp lOrd (by simp[rM6])
 have:=cGtZ ho (show @bas F (zi 0)=i64 0 from rfl) (hp (.cmp .gtr (.un 7) (zi 0) true) (by simp[rM6]))
 omega
def rM7(S:List Nat)(nE nB nM:Nat):Rule:=⟨lU,lF1 S nE nB nM,0,[k237,lHit 234,lI,lK,lOrd,.cmp .eql (.un 7) (zi 0) true,.cmp .gtr (.un 0) (.un 2) true],[]⟩
theorem rM7_ok{S:List Nat}{nE nB nM:Nat}:RuleOk (RTN f N) (rM7 S nE nB nM):=by
 intro F hu hf hp
 exfalso
 obtain⟨i,k,h1,h2,_,h⟩:=two_rows (hp k237 (by simp[rM7])) (hp (lHit 234) (by simp[rM7])) (hp lI (by simp[rM7])) (hp lK (by simp[rM7]))
 have ho:@bas F (.un 7)=i64 (ordE (@bas F (.un 5)) (@bas F (.un 3)) (F.R 10) (F.R 8)):=hp lOrd (by simp[rM7])
 have h3:=of_decide_eq_true (cEq ho (hp (.cmp .eql (.un 7) (zi 0) true) (by simp[rM7])))
 have h4:=cGtZ h2 h1 (hp (.cmp .gtr (.un 0) (.un 2) true) (by simp[rM7]))
 omega
def rM8(S:List Nat)(nE nB nM nK:Nat):Rule:=⟨lU,lF S nE nB nM nK,0,[k237,lK,.cus 32 [.un 1] [0,1,2,3,4,5,12] [],.len (.un 8) 12],[⟨[],[],0,[.len (.un 8) 10]⟩]⟩
theorem keys_inj{e:FnT}{S:List (List (List IV))}{a:IV}{K1 K2:List (List IV)}(h1:keysAt e S a K1)(h2:keysAt e S a K2):K1=K2:=by
 obtain⟨k,t,row,q1,q2,q3,q4⟩:=h1
 obtain⟨k',t',row',q1',q2',q3',q4'⟩:=h2
 rw[q1]at q1'
 have e1:k=k':=by injection q1' with q1' _;injection q1' with _ q1';injection q1' with q1' _;have:=i64_inj q1';omega
 subst e1
 rw[q2]at q2';injection q2' with q2';subst q2'
 rw[q3]at q3';injection q3' with q3';subst q3'
 rw[q4]at q4';injection q4' with q4';injection q4' with q4'
theorem h32{F:Far}{a K:Nat}(h:@Rel.Holds F (RTN f N) (.cus 32 [.un a] [0,1,2,3,4,5,K] [])):keysAt (N.d 50) (sixL F) (@bas F (.un a)) (F.R K):=by
 obtain⟨k,t,row,l,a1,a2,a3,a4,a5⟩:=h
 have a5:some (F.R K)=some l:=a5
 injection a5 with a5
 subst a5
 exact⟨k,t,row,a1,a2,a3,a4⟩
theorem rM8_ok{S:List Nat}{nE nB nM nK:Nat}:RuleOk (RTN f N) (rM8 S nE nB nM nK):=plain_ok rfl fun F hu hf hp r hr=>by
 obtain rfl:=List.mem_singleton.1 hr
 obtain⟨l,hl,_⟩:=tNat (hu (8,.nat) (by simp[rM8,numb,lU]))
 obtain⟨m,h1,h2⟩:=h237 (hp k237 (by simp[rM8]))
 obtain⟨k,e1,h6⟩:=lK_row h1 (hp lK (by simp[rM8]))
 have g1:=lenN (bOf hl) (hp (.len (.un 8) 12) (by simp[rM8]))
 have g2:=h32 (hp (.cus 32 [.un 1] [0,1,2,3,4,5,12] []) (by simp[rM8]))
 refine mkLen (bOf hl) ?_
 rcases h2 with⟨hb,_⟩ |⟨k',M',p',c',R',hb,hm,hL,hh',_⟩
 ·omega
 ·have:k=k':=by omega
  subst this
  rw[h6]at hL;injection hL with hL
  obtain⟨q1,q2,q3,q4⟩:=row_inj hL
  obtain⟨us,K,A,G,P,_,_,_,_,kk,_,pk,ml,_⟩:=hh'
  have:=keys_inj g2 kk
  subst this
  rw[q1,ml,pk.1,g1]
def rM9(S:List Nat)(nE nB nM nK:Nat):Rule:=⟨lU++([.int .i64,.nat,sB,sB,.int .i64]++(mU++mU)),lF S nE nB nM nK,0,[k237,lHit 234,lI,lK,.cus 32 [.un 1] [0,1,2,3,4,5,12] [],.cus 121 [.un 9] [12] [],.cmp .eql (.un 9) (zi 2) true,.sr (.ll 12 (.un 10) [.un 11,.un 12,.un 13]),.cmp .eql (.un 13) (zi 2) true,.sr (.ll 8 (.un 10) (mC 14)),.sr (.ll 10 (.un 10) (mC 19)),.cmp .gtr (.un 18) (.un 23) true],[]⟩
theorem rM9_ok{S:List Nat}{nE nB nM nK:Nat}:RuleOk (RTN f N) (rM9 S nE nB nM nK):=by
 intro F hu hf hp
 exfalso
 obtain⟨kd,hkd⟩:=tInt (hu (13,.int .i64) (by simp[rM9,numb,lU]))
 obtain⟨x,hx⟩:=tInt (hu (18,.int .i64) (by simp[rM9,numb,lU,mU]))
 obtain⟨y,hy⟩:=tInt (hu (23,.int .i64) (by simp[rM9,numb,lU,mU]))
 have hh:=hp (lHit 234) (by simp[rM9])
 obtain⟨i,k,_,_,h1,h2⟩:=two_rows (hp k237 (by simp[rM9])) hh (hp lI (by simp[rM9])) (hp lK (by simp[rM9]))
 have hK:=h32 (hp (.cus 32 [.un 1] [0,1,2,3,4,5,12] []) (by simp[rM9]))
 obtain⟨n,g1,g2⟩:=hp (.cus 121 [.un 9] [12] []) (by simp[rM9])
 have g2:n=3↔anyOf 3 (F.R 12)∨anyOf 4 (F.R 12):=g2
 have g3:=of_decide_eq_true (cEq g1 (hp (.cmp .eql (.un 9) (zi 2) true) (by simp[rM9])))
 obtain⟨j,j1,j2⟩:=hp (.sr (.ll 12 (.un 10) [.un 11,.un 12,.un 13])) (by simp[rM9])
 have j2:(F.R 12)[j]? =some [.sc (F.U 11),.sc (F.U 12),.sc (F.U 13)]:=j2
 have j3:=of_decide_eq_true (cEq (bOf hkd) (hp (.cmp .eql (.un 13) (zi 2) true) (by simp[rM9])))
 obtain⟨j',a1,a2⟩:=hp (.sr (.ll 8 (.un 10) (mC 14))) (by simp[rM9])
 have e:j=j':=bas_int_inj j1 a1
 subst e
 obtain⟨j',b1,b2⟩:=hp (.sr (.ll 10 (.un 10) (mC 19))) (by simp[rM9])
 have e:j=j':=bas_int_inj j1 b1
 subst e
 have h9:=cGtZ (bOf hx) (bOf hy) (hp (.cmp .gtr (.un 18) (.un 23) true) (by simp[rM9]))
 have h10:=longest (e:=e5 N) hK (fun h=>by have:=g2.2 (.inl h);omega) (fun h=>by have:=g2.2 (.inr h);omega) h1 hh (by omega) j2 (by rw[hkd,j3];rfl) b2 a2
 have h10:iv (.sc (F.U 18))<=iv (.sc (F.U 23)):=h10
 rw[hx,hy]at h10
 have h10:x<=y:=h10
 omega
def RB(S:List Nat)(n:RN)(nM nE:Nat):List Rule:=[r234 S n.nK n.nA n.nB nM true,r234 S n.nK n.nA n.nB nM false,r235t S nM n.nB,r235k S n.nK n.nA n.nB nM true,r235k S n.nK n.nA n.nB nM false,r235w S n.nK n.nA n.nB nM true,r235w S n.nK n.nA n.nB nM false,r235h S n.nK n.nA n.nB nM true,r235h S n.nK n.nA n.nB nM false,
 r236a S nE n.nB,r236n S nE n.nB nM,r236f S nE n.nB nM,r236b S nE n.nB nM,r236k S nE n.nB nM,rBidx S nE n.nB,r237 S nE n.nB,r237t S nE n.nB,r237k S n.nK n.nA n.nB nE true,r237k S n.nK n.nA n.nB nE false,
 rM1 S nE n.nB,rM2 S nE n.nB,rM3 S nE n.nB nM,rM4 S nE n.nB nM,rM5 S nE n.nB,rM6 S nE n.nB nM,rM7 S nE n.nB nM,rM8 S nE n.nB nM n.nK,rM9 S nE n.nB nM n.nK]
theorem RB_ok{S:List Nat}{n:RN}{nM nE:Nat}:∀ R∈RB S n nM nE,RuleOk (RTN f N) R:=
 all_cons r234_ok <|all_cons r234_ok <|all_cons r235t_ok <|all_cons r235k_ok <|all_cons r235k_ok <|all_cons r235w_ok <|all_cons r235w_ok <|all_cons r235h_ok <|all_cons r235h_ok <|
 all_cons r236a_ok <|all_cons r236n_ok <|all_cons r236f_ok <|all_cons r236b_ok <|all_cons r236k_ok <|all_cons rBidx_ok <|all_cons r237_ok <|all_cons r237t_ok <|all_cons r237k_ok <|all_cons r237k_ok <|
 all_cons rM1_ok <|all_cons rM2_ok <|all_cons rM3_ok <|all_cons rM4_ok <|all_cons rM5_ok <|all_cons rM6_ok <|all_cons rM7_ok <|all_cons rM8_ok <|all_cons rM9_ok all_nil
def RUB(f:Nat->List Ty)(n:RN)(S:List Nat)(nM nE:Nat):List Rule:=RUO f n S nM++RB S n nM nE
theorem RUB_ok{n:RN}{S:List Nat}{nM nE:Nat}:∀ R∈RUB f n S nM nE,RuleOk (RTN f N) R:=fun R h=>(List.mem_append.1 h).elim (RUO_ok R) (RB_ok R)
end Go.Eng.Cons
namespace Go.Eng
open Go.RowKit
theorem callR_less [Far]{P:Program}{g:FuncId}{xs:List IV}{H H1 H':IHeap}{r:IRes}(h:CallR P g xs H r H1)(hs:∀ b o,H'.get b=some o->H1.get b=some o)(hn:H1.next<=H'.next)(hg:H'.g=H.g):CallR P g xs H r H':=by
 obtain⟨h1,h2,h3⟩:=h
 refine⟨h1,Nat.le_trans h2 hn,fun j w vs hsim hv=>(h3 j w vs hsim hv).mono ?_⟩
 rintro e w' ⟨j',q1,q2,q3,q4⟩
 refine⟨j',⟨fun b o B d hb=>q1.live b o B d (hs b o hb),fun b1 b2 o1 o2 B d1 d2 k1 k2=>q1.inj b1 b2 o1 o2 B d1 d2 (hs _ _ k1) (hs _ _ k2),fun b hb=>q1.fresh b (Nat.le_trans hn hb),q1.bound,fun g' cs hc=> ?_,q1.far⟩,q2,q3,q4⟩
 rw[hg]at hc
 exact(hsim.glob g' cs hc).mono q2
def Memo.l1ok(m:Memo):Bool:=m.l1.all fun e=>match(hOf m.l1 .leaf).get e.1 with |some o=>oeq2 o e.2 |none=>false
theorem memoF_ok [Far]{P:Program}{m:Memo}{lg:List (Nat×List IV)}{C:Far->Oracle}{S:Oracle}(hC:∀ F:Far,@CallOk F P (C F))(hS:CallOk P S)
 (hF:∀ F:Far,m.shows lg (C F m.g m.xs ⟨hOf m.l0 .leaf,m.N,gOf lg⟩)=true) (hl1:m.l1ok=true):CallOk P (memoH m lg S):=by
 intro g xs H r H' hr
 unfold memoH at hr
 split at hr
 ·exact hS _ _ _ _ _ hr
 ·rename_i hg
  split at hr
  ·exact hS _ _ _ _ _ hr
  ·rename_i hN
   split at hr
   ·rename_i hsame
    simp only[Bool.and_eq_true]at hsame
    injection hr with hr;injection hr with h1 h2;subst h1;subst h2
    have e1:=iveqs_ok hsame.1.1;subst e1
    have e2:=Nat.eq_of_beq_eq_true hg;subst e2
    have hsub:∀ e∈m.l1,(hOf m.l1 .leaf).get e.1=some e.2:=fun e he=>by
     have:=List.all_eq_true.1 hl1 e he
     split at this
     ·rename_i o ho;rw[ho,oeq2_ok this]
     ·cases this
    have hc:∀ F:Far,@CallR F P m.g m.xs ⟨hOf m.l0 .leaf,m.N,gOf lg⟩ m.r ⟨hOf m.l1 .leaf,m.n1,gOf lg⟩:=fun F=>by
     have h:=hF F
     unfold Memo.shows at h
     simp only[Bool.and_eq_true]at h
     obtain⟨⟨⟨⟨⟨h1,_⟩,_⟩,_⟩,_⟩,_⟩:=h
     split at h1
     ·rename_i r H1 hrun
      simp only[Bool.and_eq_true]at h1
      obtain⟨⟨k1,k2⟩,k3⟩:=h1
      have e3:=reqs_ok k1;subst e3
      refine callR_less (hC F _ _ _ _ _ hrun) (fun b o hb=> ?_) (Nat.le_of_eq (Nat.eq_of_beq_eq_true k3)) rfl
      exact heq_ok k2 _ (hOf_mem hb)
     ·cases h1
    have h:=hF inferInstance
    unfold Memo.shows at h
    simp only[Bool.and_eq_true]at h
    obtain⟨⟨⟨⟨⟨h1,h2⟩,h3⟩,h4⟩,h5⟩,h6⟩:=h
    have h2:=List.all_eq_true.1 h2
    have h4:=List.all_eq_true.1 h4
    have h5:=List.all_eq_true.1 h5
    refine callR_frame hc hsub rfl (fun e he=> ?_) (List.all_eq_true.1 h3) (fun e he=>List.all_eq_true.1 (h4 e he)) (fun e he=> ?_) (fun e he=> ?_) h6 (fun e he=> ?_)
     (Nat.eq_of_beq_eq_true hN) (geq_ok hsame.2) (heq_ok hsame.1.2)
    ·have:=h2 e he;simp only[Bool.and_eq_true]at this;exact this.1
    ·have:=h2 e he;simp only[Bool.and_eq_true]at this;exact(Nat.blt_eq▸this.2:_<_)
    ·have:=h5 e he;simp only[Bool.and_eq_true]at this;exact this.1
    ·have:=h5 e he;simp only[Bool.and_eq_true,Bool.or_eq_true]at this
     rcases this.2 with h |h
     ·exact .inl (Nat.le_of_ble_eq_true h)
     ·exact .inr h
   ·exact hS _ _ _ _ _ hr
theorem callR_glob [Far]{P:Program}{g:FuncId}{xs:List IV}{l0 l1:HL}{N n1:Nat}{r:IRes}{lg:List (Nat×List IV)}(h:CallR P g xs ⟨hOf l0 .leaf,N,gOf []⟩ r ⟨hOf l1 .leaf,n1,gOf []⟩):CallR P g xs ⟨hOf l0 .leaf,N,gOf lg⟩ r ⟨hOf l1 .leaf,n1,gOf lg⟩:=by
 obtain⟨h1,h2,h3⟩:=h
 refine⟨h1,h2,fun j w vs hs hv=> ?_⟩
 have hs0:Sim j ⟨hOf l0 .leaf,N,gOf []⟩ w:=⟨hs.live,hs.inj,hs.fresh,hs.bound,fun g cs h=>by simp[gOf,Trie.get]at h,hs.far⟩
 refine(h3 j w vs hs0 hv).mono ?_
 rintro e w' ⟨j',q1,q2,q3,q4⟩
 exact⟨j',⟨q1.live,q1.inj,q1.fresh,q1.bound,fun g' cs hc=>(hs.glob g' cs hc).mono q2,q1.far⟩,q2,q3,q4⟩
theorem ct_glob [F0:Far]{P:Program}{lg:List (Nat×List IV)}{c:Ct}(h:CtOk P [] c):CtOk P lg c:={run:=fun F hl=>@callR_glob F P _ _ _ _ _ _ _ lg (@CtOk.run F0 P [] c h F hl),sub:=h.sub,in0:=h.in0,inx:=h.inx,lt0:=h.lt0,in1:=h.in1,inr:=h.inr,lt1:=h.lt1}
theorem con_glob{P:Program}{RT:RTab}{lg:List (Nat×List IV)}{C:Con}(h:ConOk P RT [] C):ConOk P RT lg C:=by
 intro F hu hf hp
 obtain⟨a,ha,G,hG,hk⟩:=h F hu hf hp
 exact⟨a,ha,G,hG,hk.u,hk.f,hk.rels,ct_glob hk.ct⟩
end Go.Eng
namespace Go.Eng.Cons
open Go.RowKit Go.Eng Go.Shelf Go.Lib Go.Proofs
variable {P:Program}{ρ:Ren}
set_option maxHeartbeats 2000000 in
set_option maxRecDepth 100000 in
theorem clone_empty(L:SlLaysE0.n41 P ρ)(i0:TypeInfo)(z:Value)(size bytes:Nat)(hi:P.info? (ρ.t 23)=some i0)(hz0:i0.zero=some z)(hz1:i0.size=size)(hz2:i0.bytes=bytes)(hzs:z.cells.size=size)(hsz:0<size)
 (z23:∀ w,(Go.sizeOf (ρ.t 23)).run P w=.ok size w) (a:Addr) (c:Nat) (w:World):
 Calls P (ρ.f 41) #[.slice (some a) 0 c] w fun e w'=>∃ v',e=.returned v'∧w'.ownsRow w.heap.size (ρ.t 23) size v' 0 []∧Below w.heap.size w w':=by
 have mixed:=L.mixed;have t4:=L.t4;have a4:=L.a4;have z4:=L.z4;have v4:=L.v4;have t22:=L.t22;have a22:=L.a22;have z22:=L.z22;have v22:=L.v22
 have q22:∀ (w:World) (a:Option Addr) (n c n' c':Nat),(binOp .eql (ρ.t 22) (.slice a n c) (.slice none n' c')).run P w=.ok (.bool a.isNone) w:=fun w a n c n' c'=>Lib.run_eql_slice_nil w _ _ a n c n' c' L.t22
 have u22:∀ w,Sem.run P (underlying (ρ.t 22)) w=.ok (TypeDesc.slice (ρ.t 23)) w:=run_underlying t22
 obtain⟨_,_,FG⟩:=L.f41
 go_enter FG,SlBodyN.n41_ntmps ρ
 go_wp2_with (at_builtin;refine wpList_append_own _ rfl _ _ (ρ.t 22) rfl w.heap.size (ρ.t 23) i0 z size bytes t22 hi hz0 hz1 hz2 hzs hsz _ _ _ rfl (World.ownsRow_made w #[] 0 (Nat.le_refl _) (Nat.zero_le _) (by simp)) a 0 c [] rfl ?qc1 ?qc2 ?qc3 ?qc4 ?qc5 ?qc6 ?_)
 case qc1=>simp
 case qc2=>intro j u hj;simp at hj
 case qc3=>intro u hu;cases hu
 case qc4=>simp
 case qc5=>simp
 case qc6=>simp
 intro v' w1 hown hgrow hnil
 go_wp2
 go_ret
 refine⟨v',rfl,by simpa using hown,?_⟩
 exact((Below.refl _ w).alloc (Nat.le_refl _) _).grown hgrow (by simp) (by intro k hk;simp[Value.ownBlock]at hk;omega)
theorem clone_call [Far](L:SlLaysE0.n41 P ρ)(hen:Enters P (ρ.f 41))(i0:TypeInfo)(z:Value)(size bytes:Nat)(hi:P.info? (ρ.t 23)=some i0)(hz0:i0.zero=some z)(hz1:i0.size=size)(hz2:i0.bytes=bytes)(hzs:z.cells.size=size)(hsz:0<size)
 (z23:∀ w,(Go.sizeOf (ρ.t 23)).run P w=.ok size w) (hbig:maxL *bytes<=140737488355328) {s:Nat} (hl:(Far.R s).length<=maxL) (hr:∀ r∈Far.R s,r.length=size) (h1:∀ r∈Far.R s,∀x∈r,x.one=true) (H:IHeap):CallR P (ρ.f 41) [.fu s] H (.ret (.fu s)) H:=by
 refine⟨hen,Nat.le_refl _,fun j w vs hs hvs=> ?_⟩
 obtain⟨v,rfl,hv⟩:=VRs.one' hvs
 have hmax:maxL=2 ^ 32:=by decide
 have done:∀ {v':Value} {w':World},Below w.heap.size w w'->VR j w' (.fu s) v'->∃ j',Sim j' H w'∧Ext j w j' w'∧Stay H.next j j'∧EndR j' w' (.ret (.fu s)) (.returned v'):=fun hb h=>⟨j,hs.below hb,Ext.below hb,Stay.refl _ _,h⟩
 cases hv with
 |fu hv=>
 by_cases hR:Far.R s=[]
 ·rw[hR]at hv
  have emp:∀ {w':World} {a:Option Addr} {cap:Nat},VR j w' (.fu s) (.slice a 0 cap):=fun{w' a cap}=>.fu (by rw[hR];exact .fs0)
  cases hv with
  |fs vs hne _ _ _ _ _ _=>exact absurd rfl hne
  | @fs0 a cap=>
    cases a with
    |none=>
     refine(AnyE.slices_Clone_nil L 0 cap w).mono ?_
     rintro e w' ⟨rfl,rfl⟩
     exact done (Below.refl _ _) emp
    |some a=>
     refine(clone_empty L i0 z size bytes hi hz0 hz1 hz2 hzs hsz z23 a cap w).mono ?_
     rintro e w' ⟨v',rfl,⟨_,ho⟩,hb⟩
     rcases ho with⟨rfl,_⟩ |⟨g,cap',cur,rfl,_⟩
     ·exact done hb emp
     ·exact done hb emp
 ·generalize hrows:Far.R s=rows at hv hl hr h1 hR
  cases hv with
  |fs0=>exact absurd rfl hR
  | @fs _ B off sz cap vs hne hB hw hsz' hcap hc hv=>
    have esz:sz=size:=by
     obtain⟨r,l,e⟩:=List.exists_cons_of_ne_nil hne
     have m:r∈rows:=by rw[e];simp
     rw[<-hsz' r m,hr r m]
    subst esz
    have hcell:∀ q,q<rows.length *sz->q / sz<rows.length∧q % sz<sz:=fun q hq=>⟨Nat.div_lt_of_lt_mul (by rw[Nat.mul_comm];exact hq),Nat.mod_lt _ hsz⟩
    let news:List Value:=(List.range (rows.length *sz)).map fun q=>vs (q / sz) (q % sz)
    have hn:news.length=rows.length *sz:=by simp[news]
    have hat:∀ q u,news[q]? =some u->q<rows.length *sz∧u=vs (q / sz) (q % sz):=fun q u h=>by
     have hlt:q<news.length:=(List.getElem?_eq_some_iff.1 h).1
     rw[hn]at hlt
     refine⟨hlt,?_⟩
     simp only[news,List.getElem?_map,List.getElem?_range hlt,Option.map_some,Option.some.injEq]at h
     exact h.symm
    refine(AnyE.slices_Clone L i0 z sz bytes hi hz0 hz1 hz2 hzs hsz z23 B off rows.length cap news w hn (by unfold maxLen;omega) ?_ ?_ ?_).mono ?_
    ·exact Nat.le_trans (Nat.mul_le_mul_right _ hl) hbig
    ·intro q u h
     obtain⟨hq,rfl⟩:=hat q u h
     obtain⟨q1,q2⟩:=hcell q hq
     have:=hc (q / sz) (q % sz) q1 q2
     rw[show q / sz *sz+q % sz=q from by rw[Nat.mul_comm];exact Nat.div_add_mod q sz]at this
     exact this
    ·intro u hu
     obtain⟨q,hq,rfl⟩:=List.mem_map.1 hu
     obtain⟨q1,q2⟩:=hcell q (List.mem_range.1 hq)
     have hrl:q % sz<(rows[q / sz]).length:=by rw[hsz' _ (List.getElem_mem q1)];exact q2
     exact(hv (q / sz) (q % sz) q1 hrl).one (h1 _ (List.getElem_mem q1) _ (List.getElem_mem hrl))
    ·rintro e w' ⟨v',rfl,⟨_,ho⟩,hnil,hb⟩
     rcases ho with⟨e,_⟩ |⟨g,cap',cur,rfl,hg,hcur,hc1,hc2,hc3,hc4⟩
     ·exact absurd e hnil
     ·refine done hb (.fu ?_)
      rw[hrows]
      have hglt:g<w'.heap.size:=by
       rcases Nat.lt_or_ge g w'.heap.size with h |h
       ·exact h
       ·rw[Array.getElem?_eq_none h]at hcur;cases hcur
      refine .fs vs hne ⟨fun⟨b,d,hb'⟩=> ?_,fun hX=> ?_⟩ hglt hsz' hc1 (fun i k hi' hk=> ?_) fun i k hi' hk=> ?_
      ·have:=hs.bound b g d hb';omega
      ·have:=hs.far g hX;omega
      ·have hq:i *sz+k<rows.length *sz:=by
        have:(i+1) *sz<=rows.length *sz:=Nat.mul_le_mul_right _ hi'
        rw[Nat.add_mul]at this;omega
       have hle:rows.length *sz<=cap' *sz:=Nat.mul_le_mul_right _ hc1
       have hlt:i *sz+k<cur.size:=by omega
       have e1:cur.toList[i *sz+k]? =news[i *sz+k]? :=by rw[<-hc4,List.getElem?_take_of_lt hq]
       have e2:news[i *sz+k]? =some (vs i k):=by
        simp only[news,List.getElem?_map,List.getElem?_range hq,Option.map_some,Option.some.injEq]
        have hd:(i *sz+k) / sz=i:=by rw[Nat.mul_comm,Nat.mul_add_div hsz,Nat.div_eq_of_lt hk];omega
        have hm:(i *sz+k) % sz=k:=by rw[Nat.mul_comm,Nat.mul_add_mod,Nat.mod_eq_of_lt hk]
        rw[hd,hm]
       rw[e2]at e1
       show w'.cell? ⟨g,0+(i *sz+k),none⟩=_
       rw[Nat.zero_add]
       have e3:cur[i *sz+k]? =some (vs i k):=by rw[<-Array.getElem?_toList];exact e1
       simp[World.cell?,hcur,e3]
      ·exact(hv i k hi' hk).mono (Ext.below hb)
theorem clone_con{RT:RTab}(L:SlLaysE0.n41 P ρ)(hen:Enters P (ρ.f 41)){i0:TypeInfo}{z:Value}{size bytes:Nat}(hi:P.info? (ρ.t 23)=some i0)(hz0:i0.zero=some z)(hz1:i0.size=size)(hz2:i0.bytes=bytes)(hzs:z.cells.size=size)(hsz:0<size)
 (z23:∀ w,(Go.sizeOf (ρ.t 23)).run P w=.ok size w) (hbig:maxL *bytes<=140737488355328) {n g:Nat} (hg:g=ρ.f 41) (hlen:(RT n).length=size) (hat:∀ t∈RT n,∀x,TyV RT t x->x.one=true):
 ConOk P RT [] ⟨g,[],[n],0,[.fu 0],[],0,[],[⟨[],[],0,[],.ret (.fu 0),[],0⟩]⟩:=by
 subst hg
 intro F _ hf _
 have h0:TyV RT (.rows n) (.fs (F.R 0)):=hf (0,n) (by simp[numb])
 refine⟨_,List.mem_singleton.2 rfl,F,Far.Agree.refl _ _,⟨(fun e he=>by simp[numb]at he),(fun e he=>by simp[numb]at he),(fun r hr=>by cases hr),?_⟩⟩
 refine ctForm_ok (by rfl) fun F' hl=> ?_
 have hR:F'.R 0=F.R 0:=congrFun hl.R.symm 0
 cases h0 with
 |rows q1 q2 q3=>
  refine @clone_call P ρ F' L hen i0 z size bytes hi hz0 hz1 hz2 hzs hsz z23 hbig 0 (by rw[hR];exact q1) (fun r hr=>by rw[hR]at hr;rw[q2 r hr,hlen]) (fun r hr x hx=> ?_) _
  rw[hR]at hr
  obtain⟨k,hk,rfl⟩:=List.getElem_of_mem hx
  have hk':k<(RT n).length:=by rw[<-q2 r hr];exact hk
  exact hat _ (List.getElem_mem hk') _ (q3 r hr k hk' hk)
end Go.Eng.Cons
namespace Go.Eng.Cons
open Go.RowKit Go.Eng
structure Bulk(H:Type) where
 f:DataW H->Nat
 str:∀ l,l.length<=f (.lit (.string l))
 el:∀ {es sp e},e∈es->f e<=f (.slice es sp)
 len:∀ es sp,es.length<=f (.slice es sp)
 ag:∀ {ps e},e∈ps->f e<=f (.agg ps)
def tyAt(rts:List TypeId)(e:TypeId):Nat->Option Nat
 |0=>none
 |k+1=>(match rts[k]? with |some t=>if Nat.beq t e then some k else tyAt rts e k |none=>tyAt rts e k)
theorem tyAt_ok{rts:List TypeId}{e:TypeId}:∀ {k n:Nat},tyAt rts e k=some n->rts[n]? =some e:=by
 intro k
 induction k with
 |zero=>intro n h;cases h
 |succ k ih=>
  intro n h
  simp only[tyAt]at h
  split at h
  ·rename_i t ht
   split at h
   ·rename_i he
    injection h with h;subst h
    rw[ht,Nat.eq_of_beq_eq_true he]
   ·exact ih h
  ·exact ih h
mutual
/-- The cells of a type. -/
def cellT(P:Program)(rts:List TypeId):Nat->TypeId->Option (List Ty)
 |0,_=>none
 |k+1,t=>
  match P.underlying t with
  |some (.int kd)=>some [.int kd]
  |some .string=>some [.str 1048576]
  |some .bool=>some [.boo]
  |some (.slice e)=>(match tyAt rts e rts.length with |some n=>some [.rows n] |none=>none)
  |some (.struct fs)=>(match fldT P rts k 0 fs.toList with |some l=>if Nat.beq (P.cellsOf t) l.length then some l else none |none=>none)
  |_=>none
def fldT(P:Program)(rts:List TypeId):Nat->Nat->List Field->Option (List Ty)
 |0,_,_=>none
 |_+1,_,[]=>some []
 |k+1,off,f::fs=>
  match cellT P rts k f.type with
  |some l=>if Nat.beq f.offset off&&Nat.beq (P.cellsOf f.type) l.length then(match fldT P rts k (off+l.length) fs with |some m=>some (l++m) |none=>none)else none
  |none=>none
end
def Rd [Far](RT:RTab)(w:World):List IV->List Value->List Ty->Prop
 | [],[],[]=>True
 |x::xs,v::vs,t::ts=>VR J.none w x v∧TyV RT t x∧Rd RT w xs vs ts
 |_,_,_=>False
section
variable [Far]{RT:RTab}{w:World}
theorem Rd.app:∀ {xs ys:List IV}{vs us:List Value}{ts rs:List Ty},Rd RT w xs vs ts->Rd RT w ys us rs->Rd RT w (xs++ys) (vs++us) (ts++rs)
 | [],_,[],_,[],_,_,h=>h
 |_::_,_,_::_,_,_::_,_,h,h'=>⟨h.1,h.2.1,Rd.app h.2.2 h'⟩
 | [],_,_::_,_,_,_,h,_=>h.elim
 | [],_,[],_,_::_,_,h,_=>h.elim
 |_::_,_,[],_,_,_,h,_=>h.elim
 |_::_,_,_::_,_,[],_,h,_=>h.elim
theorem Rd.len:∀ {xs:List IV}{vs:List Value}{ts:List Ty},Rd RT w xs vs ts->xs.length=ts.length∧vs.length=ts.length
 | [],[],[],_=>⟨rfl,rfl⟩
 |_::_,_::_,_::_,h=>by
  obtain⟨a,b⟩:=Rd.len h.2.2
  exact⟨by simp[a],by simp[b]⟩
 | [],_::_,_,h=>h.elim
 | [],[],_::_,h=>h.elim
 |_::_,[],_,h=>h.elim
 |_::_,_::_,[],h=>h.elim
theorem Rd.at:∀ {xs:List IV}{vs:List Value}{ts:List Ty},Rd RT w xs vs ts->∀ i (h:i<xs.length)(h':i<vs.length)(h'':i<ts.length),VR J.none w xs[i] vs[i]∧TyV RT ts[i] xs[i]
 |x::xs,v::vs,t::ts,h,0,_,_,_=>⟨h.1,h.2.1⟩
 |x::xs,v::vs,t::ts,h,i+1,h1,h2,h3=>by
  have:=Rd.at h.2.2 i (by simpa using h1) (by simpa using h2) (by simpa using h3)
  simpa using this
 | [],_,_,_,i,h1,_,_=>absurd h1 (Nat.not_lt_zero _)
 |_::_,[],_,h,_,_,_,_=>h.elim
 |_::_,_::_,[],h,_,_,_,_=>h.elim
end
theorem list_of{α:Type}{n:Nat}{Q:Nat->α->Prop}(h:∀ i,i<n->∃ x,Q i x):∃ l:List α,l.length=n∧∀ (j:Nat)(hj:j<l.length),Q j l[j]:=by
 induction n with
 |zero=>exact⟨[],rfl,fun j hj=>absurd hj (Nat.not_lt_zero _)⟩
 |succ n ih=>
  obtain⟨l,h1,h2⟩:=ih fun i hi=>h i (by omega)
  obtain⟨x,hx⟩:=h n (by omega)
  refine⟨l++[x],by simp[h1],fun j hj=> ?_⟩
  by_cases hl:j<l.length
  ·rw[List.getElem_append_left hl];exact h2 j hl
  ·have:j=l.length:=by simp at hj;omega
   subst this
   simp only[List.getElem_append_right (Nat.le_refl _),Nat.sub_self,List.getElem_cons_zero]
   rw[h1];exact hx
section
variable [hF:Far]{P:Program}{RT:RTab}{rts:List TypeId}{H:Type}{enc:TypeId×Value->H}{w:World}{base:Nat}{spare:Nat->Bool}{held:Bool}{B:Bulk H}
theorem rows_of(hX:∀ b,¬Far.X b){e:TypeId}{n nt:Nat}{a:Addr}{len cap:Nat}{D:Nat->DataW H}{Pl:Nat->List MemPlace}(hsz:P.cellsOf e=(RT nt).length)(h0:0<(RT nt).length)(hlc:len<=cap)(hmax:len<=maxL)
 (hel:∀ i,i<len->∃ cs',w.cells? base (a.add (i *P.cellsOf e)) (P.cellsOf e)=some cs'∧DataW.trod enc P w base spare held n e cs'=some (D i,Pl i))
 (ih:∀ i cs' x,i<len->DataW.trod enc P w base spare held n e cs'=some x->x.1=D i->∃ xs,Rd RT w xs cs' (RT nt)):∃ rows:List (List IV),VR J.none w (.fs rows) (.slice (some a) len cap)∧TyV RT (.rows nt) (.fs rows):=by
 have hoff:∀ b,@J.off hF J.none b:=fun b=>⟨J.none_has b,hX b⟩
 rcases Nat.eq_zero_or_pos len with hl0 |hl0
 ·subst hl0
  exact⟨[],.fs0,.rows (Nat.zero_le _) (fun r hr=>by cases hr) fun r hr=>by cases hr⟩
 obtain⟨css,c1,c2⟩:=list_of (n:=len) (Q:=fun i (p:List Value×List IV)=>w.cells? base (a.add (i *P.cellsOf e)) (P.cellsOf e)=some p.1∧Rd RT w p.2 p.1 (RT nt)) fun i hi=>by
  obtain⟨cs',k1,k2⟩:=hel i hi
  obtain⟨xs,hx⟩:=ih i cs' _ hi k2 rfl
  exact⟨(cs',xs),k1,hx⟩
 have cell:∀ (i k:Nat) (hi:i<css.length) (hk:k<(RT nt).length),∃hk':k<(css[i]).1.length,w.cell? ((a.add (i *P.cellsOf e)).add k)=some ((css[i]).1[k]):=fun i k hi hk=>by
  obtain⟨k1,k2⟩:=c2 i hi
  obtain⟨_,m1,m2⟩:=World.cells?_some k1
  have hk':k<(css[i]).1.length:=by rw[k2.len.2];exact hk
  refine⟨hk',?_⟩
  have:=m2 k (by rw[hsz];exact hk)
  rw[List.getElem?_eq_getElem hk']at this
  exact this
 have hspot:a.spot=none:=by
  obtain⟨hk',h⟩:=cell 0 0 (by omega) h0
  simp only[Nat.zero_mul,Addr.add,if_true]at h
  cases hs:a.spot with
  |none=>rfl
  |some s=>
   unfold World.cell? at h
   split at h
   ·simp[hs]at h
   ·cases h
 obtain⟨ab,ao,av⟩:=a
 simp only at hspot
 subst hspot
 have hadd:∀ i k,((Addr.mk ab ao none).add (i *P.cellsOf e)).add k=⟨ab,ao+(i *(RT nt).length+k),none⟩:=fun i k=>by
  rw[Addr.add_add,hsz]
  unfold Addr.add
  split
  ·rename_i h;rw[h];rfl
  ·rfl
 let rows:List (List IV):=css.map (·.2)
 have hrl:rows.length=len:=by simp[rows,c1]
 have hrow:∀ i (hi:i<rows.length),rows[i]=(css[i]'(by simpa[rows]using hi)).2:=fun i hi=>by simp[rows]
 have hsize:∀ r∈rows,r.length=(RT nt).length:=fun r hr=>by
  obtain⟨p,hp,rfl⟩:=List.mem_map.1 hr
  obtain⟨i,hi,rfl⟩:=List.getElem_of_mem hp
  exact((c2 i hi).2.len).1
 refine⟨rows,?_,?_⟩
 ·rw[<-hrl]
  have hw:ab<w.heap.size:=by
   obtain⟨hk',h⟩:=cell 0 0 (by omega) h0
   rw[hadd]at h
   rcases Nat.lt_or_ge ab w.heap.size with h' |h'
   ·exact h'
   ·have:w.heap[ab]? =none:=Array.getElem?_eq_none h'
    simp[World.cell?,this]at h
  refine .fs (fun i k=>((css.map (·.1)).getD i []).getD k undef) (fun h=>by rw[h]at hrl;simp at hrl;omega) (hoff ab) hw hsize (by omega) (fun i k hi hk=> ?_) fun i k hi hk=> ?_
  ·have hi':i<css.length:=by simpa[rows]using hi
   obtain⟨hk',h⟩:=cell i k hi' hk
   rw[hadd]at h
   rw[h]
   simp[List.getD,hi',hk']
  ·have hi':i<css.length:=by simpa[rows]using hi
   have hk2:k<(RT nt).length:=by rw[<-hsize _ (List.getElem_mem hi)];exact hk
   obtain⟨hk',_⟩:=cell i k hi' hk2
   have hk3:k<(css[i]).2.length:=by rw[<-hrow i hi];exact hk
   have:=((c2 i hi').2.at k hk3 hk' hk2).1
   simp only[hrow i hi]
   simpa[List.getD,hi',hk']using this
 ·refine .rows (by rw[hrl];exact hmax) hsize fun r hr k h h'=> ?_
  obtain⟨p,hp,rfl⟩:=List.mem_map.1 hr
  obtain⟨i,hi,rfl⟩:=List.getElem_of_mem hp
  obtain⟨hk',_⟩:=cell i k hi h
  exact((c2 i hi).2.at k h' hk' h).2
theorem read_all(hX:∀ b,¬Far.X b)(hRT:∀ n e,rts[n]? =some e->(∃k,cellT P rts k e=some (RT n))∧P.cellsOf e=(RT n).length∧0<(RT n).length):
 ∀(fuel:Nat) (t:TypeId) (cs:List Value) (x:DataW H×List MemPlace),DataW.trod enc P w base spare held fuel t cs=some x->B.f x.1<=1048576->∀ (k:Nat) (tys:List Ty),cellT P rts k t=some tys->∃ xs,Rd RT w xs cs tys:=by
 have hmax:maxL=2 ^ 32:=by decide
 intro fuel
 induction fuel using Nat.strongRecOn with
 |_ fuel ih=>
 intro t cs x h hb k tys hk
 cases k with
 |zero=>simp[cellT]at hk
 |succ k=>
 unfold cellT at hk
 split at hk
 ·rename_i kd ht
  injection hk with hk;subst hk
  obtain⟨n,rfl,_,_⟩:=DataW.trod_int ht h
  exact⟨[.sc (.int kd n)],.sc rfl,.int,trivial⟩
 ·rename_i ht
  injection hk with hk;subst hk
  obtain⟨s,rfl,rfl,_⟩:=DataW.trod_string ht h
  have h1:=B.str s.data.toList
  have h2:s.data.toList.length=s.size:=by simp
  have h3:s.size<=1048576:=by rw[<-h2];exact Nat.le_trans h1 hb
  exact⟨[.sc (.string s)],.sc rfl,.str h3,trivial⟩
 ·rename_i ht
  injection hk with hk;subst hk
  obtain⟨b,rfl,_⟩:=DataW.trod_bool ht h
  exact⟨[.sc (.bool b)],.sc rfl,.boo,trivial⟩
 ·rename_i e ht
  split at hk
  ·rename_i nt hnt
   injection hk with hk;subst hk
   obtain⟨⟨k',hk'⟩,hsz,h0⟩:=hRT nt e (tyAt_ok hnt)
   rcases DataW.trod_slice ht h with⟨rfl,_⟩ |⟨a,len,cap,elems,rest,n,rfl,rfl,rfl,_,hl,_,hlen,hel,_,_⟩
   ·exact⟨[.fs []],.fs0,.rows (Nat.zero_le _) (fun r hr=>by cases hr) (fun r hr=>by cases hr),trivial⟩
   ·have hle:len<=1048576:=by
     have:=B.len (elems.map (·.1)) (rest.map (·.1))
     rw[List.length_map,hlen]at this
     exact Nat.le_trans this hb
    obtain⟨rows,r1,r2⟩:=rows_of (nt:=nt) (P:=P) (RT:=RT) (w:=w) (base:=base) (spare:=spare) (held:=held) (enc:=enc) (n:=n) (D:=fun i=>(elems.getD i (.nil,[])).1) (Pl:=fun i=>(elems.getD i (.nil,[])).2) hX hsz h0 hl (by omega) (fun i hi=>by
     have hi':i<elems.length:=by omega
     have:=hel i hi
     rw[List.getElem?_eq_getElem hi']at this
     obtain⟨cs',k1,k2⟩:=Option.bind_eq_some_iff.1 this
     refine⟨cs',k1,?_⟩
     rw[k2];simp[List.getD,hi']) fun i cs' x' hi hx' hxD=>
     ih n (by omega) e cs' x' hx' (by
      rw[hxD]
      have hi':i<elems.length:=by omega
      have e:elems.getD i (.nil,[])=elems[i]:=by simp[List.getD,hi']
      simp only[e]
      exact Nat.le_trans (B.el (List.mem_map.2 ⟨_,List.getElem_mem hi',rfl⟩)) hb) k' _ hk'
    exact⟨[.fs rows],r1,r2,trivial⟩
  ·cases hk
 ·rename_i fs ht
  split at hk
  ·rename_i l hl
   split at hk
   ·rename_i hcl
    injection hk with hk;subst hk
    have hcl:=Nat.eq_of_beq_eq_true hcl
    obtain⟨ys,n,rfl,rfl,hcs,hyl,hg⟩:=DataW.trod_struct ht h
    have key:∀ (k off:Nat) (fl:List Field) (m:List Ty) (i:Nat),fs.toList.drop i=fl->fldT P rts k off fl=some m->∃ xs,Rd RT w xs ((cs.drop off).take m.length) m:=by
     intro k
     induction k with
     |zero=>intro off fl m i _ hm;simp[fldT]at hm
     |succ k ihk=>
      intro off fl m i hfl hm
      cases fl with
      |nil=>simp only[fldT,Option.some.injEq]at hm;subst hm;exact⟨[],by simp[Rd]⟩
      |cons f fl=>
       simp only[fldT]at hm
       split at hm
       ·rename_i l1 hl1
        split at hm
        ·rename_i hof
         simp only[Bool.and_eq_true]at hof
         split at hm
         ·rename_i m2 hm2
          injection hm with hm;subst hm
          have o1:=Nat.eq_of_beq_eq_true hof.1
          have o2:=Nat.eq_of_beq_eq_true hof.2
          have hfi:fs.toList[i]? =some f:=by
           have:=congrArg List.head? hfl
           rw[List.head?_drop]at this;simpa using this
          have hfi':fs[i]? =some f:=by rw[<-Array.getElem?_toList];exact hfi
          have g:=hg i f hfi'
          have hi:i<ys.length:=by rw[hyl];exact(Array.getElem?_eq_some_iff.1 hfi').1
          rw[List.getElem?_eq_getElem hi]at g
          obtain⟨xs1,r1⟩:=ih n (by omega) _ _ _ g (Nat.le_trans (B.ag (List.mem_map.2 ⟨_,List.getElem_mem hi,rfl⟩)) hb) k l1 hl1
          obtain⟨xs2,r2⟩:=ihk (off+l1.length) fl m2 (i+1) (by
           have:fs.toList.drop (i+1)=(fs.toList.drop i).drop 1:=by rw[List.drop_drop]
           rw[this,hfl];rfl) hm2
          refine⟨xs1++xs2,?_⟩
          have e:(cs.drop off).take (l1++m2).length=(cs.drop f.offset).take (P.cellsOf f.type)++(cs.drop (off+l1.length)).take m2.length:=by
           rw[o1,o2,List.length_append,List.take_add,List.drop_drop]
          rw[e]
          exact r1.app r2
         ·cases hm
        ·cases hm
       ·cases hm
    obtain⟨xs,hx⟩:=key k 0 fs.toList l 0 rfl hl
    rw[List.drop_zero,List.take_of_length_le (by omega)]at hx
    exact⟨xs,hx⟩
   ·cases hk
  ·cases hk
 ·cases hk
end
end Go.Eng.Cons
