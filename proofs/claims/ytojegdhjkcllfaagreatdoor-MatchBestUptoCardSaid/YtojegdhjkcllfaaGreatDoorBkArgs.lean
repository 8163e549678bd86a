/- MatchBest. -/
import Derived.Test.YtojegdhjkcllfaaGreatDoorBkG
import Derived.Test.YtojegdhjkcllfaaGreatDoorEngD
namespace Go.Eng.Cons
open Go.RowKit Go.Eng Go.Proofs Go.WideShapes
set_option linter.all false
set_option maxRecDepth 100000
def rtIds:List TypeId:=[89,87,206,92,39,176,46,54,211,196,51,9,56]
def tyEq:Ty->Ty->Bool
 | .int a,.int b=>decide (a=b)
 | .str a,.str b=>Nat.beq a b
 | .boo,.boo=>true
 | .rows a,.rows b=>Nat.beq a b
 |_,_=>false
theorem tyEq_ok{a b:Ty}(h:tyEq a b=true):a=b:=by
 cases a<;>cases b<;>simp only[tyEq]at h<;>first
  |rfl
  |cases h
  |(rw[of_decide_eq_true h])
  |(rw[Nat.eq_of_beq_eq_true h])
def tysEq:List Ty->List Ty->Bool
 | [],[]=>true
 |a::l,b::m=>tyEq a b&&tysEq l m
 |_,_=>false
theorem tysEq_ok:∀ {a b:List Ty},tysEq a b=true->a=b
 | [],[],_=>rfl
 |a::l,b::m,h=>by
  simp only[tysEq,Bool.and_eq_true]at h
  rw[tyEq_ok h.1,tysEq_ok h.2]
 | [],_::_,h=>by cases h
 |_::_,[],h=>by cases h
noncomputable def rowOk(n:Nat):Bool:=match rtIds[n]? with
 |some e=>(match cellT PP rtIds 40 e with |some l=>tysEq l (RTf n) |none=>false)&&(Nat.beq (PP.cellsOf e) (RTf n).length&&Nat.blt 0 (RTf n).length)
 |none=>false
theorem rows_okB:(List.range 13).all rowOk=true:=by kernel_rfl
theorem rows_ok13{N:PN}:∀ n e,rtIds[n]? =some e->(∃k,cellT PP rtIds k e=some ((RT N) n))∧PP.cellsOf e=((RT N) n).length∧0<((RT N) n).length:=by
 intro n e h
 have hn:n<13:=(List.getElem?_eq_some_iff.1 h).1
 have:=List.all_eq_true.1 rows_okB n (List.mem_range.2 hn)
 have hR:(RT N) n=RTf n:=by
  show (match Nat.ble 100 n with |false=>RTf n |true=>_)=_
  have:Nat.ble 100 n=false:=by
   cases hb:Nat.ble 100 n with
   |false=>rfl
   |true=>have:=Nat.le_of_ble_eq_true hb;omega
  rw[this]
 rw[hR]
 simp only[rowOk,h,Bool.and_eq_true]at this
 obtain⟨h1,h2,h3⟩:=this
 split at h1
 ·rename_i l hl
  exact⟨⟨40,by rw[hl,tysEq_ok h1]⟩,Nat.eq_of_beq_eq_true h2,by simpa[Nat.blt_eq]using h3⟩
 ·cases h1
noncomputable def tysOf(t:TypeId)(l:List Ty):Bool:=match cellT PP rtIds 40 t with |some m=>tysEq m l |none=>false
theorem tys29:tysOf 29 [.rows 0,.rows 1,.rows 2,.rows 3,.rows 4,.rows 5]=true:=by kernel_rfl
theorem tys9:tysOf 9 [.str 1048576]=true:=by kernel_rfl
theorem tys30:tysOf 30 [.rows 6]=true:=by kernel_rfl
theorem tys31:tysOf 31 [.rows 7]=true:=by kernel_rfl
theorem tysOf_ok{t:TypeId}{l:List Ty}(h:tysOf t l=true):cellT PP rtIds 40 t=some l:=by
 unfold tysOf at h
 split at h
 ·rename_i m hm;rw[hm,tysEq_ok h]
 ·cases h
abbrev farNo:Far:={X:=fun _=>False,U:=fun _=>.bool false,R:=fun _=>[],M:=fun _=>([],0),hU:=fun _=>rfl,hR:=fun _ _ h=>by cases h}
theorem rows_inv{RT:RTab}{n:Nat}{x:IV}(h:TyV RT (.rows n) x):∃ rows,x=.fs rows:=by cases h;exact⟨_,rfl⟩
theorem str_inv{RT:RTab}{n:Nat}{x:IV}(h:TyV RT (.str n) x):∃ s,x=.sc (.string s):=by cases h;exact⟨_,rfl⟩
def nth8(l:List (List (List IV)))(k:Nat):List (List IV):=l.getD k []
abbrev farOf(s:ByteArray)(l:List (List (List IV)))(h:∀ rows∈l,∀r∈rows,∀x∈r,Bz x):Far:=
 {X:=fun _=>False,U:=fun _=>.string s,R:=nth8 l,M:=fun _=>([],0),hU:=fun _=>rfl
  hR:=fun k r hr x hx=>by
   by_cases hk:k<l.length
   ·have e:nth8 l k=l[k]:=by simp[nth8,List.getD,hk]
    rw[e]at hr
    exact h _ (List.getElem_mem hk) r hr x hx
   ·have e:nth8 l k=[]:=by simp[nth8,List.getD,Nat.le_of_not_lt hk]
    rw[e]at hr;cases hr}
section
variable {H:Type}{enc:TypeId×Value->H}{W:World}{spare:Nat->Bool}{held:Bool}{B:Bulk H}{base:Nat}
theorem read_one{t:TypeId}{ty:Ty}{v:Value}{d:DataW H}{p:List MemPlace}(hc:v.cells.toList=[v])(ht:tysOf t [ty]=true)(h:DataW.Trod enc PP W base spare held t v d p)(hb:B.f d<=1048576){N:PN}:∃ x,@VR farNo J.none W x v∧TyV (RT N) ty x:=by
 obtain⟨fuel,hf⟩:=h
 rw[hc]at hf
 obtain⟨xs,hx⟩:=@read_all farNo PP (RT N) rtIds H enc W base spare held B (fun b hb=>hb) rows_ok13 fuel t _ _ hf hb 40 _ (tysOf_ok ht)
 match xs,hx with
 | [x],hx=>exact⟨x,hx.1,hx.2.1⟩
 | [],hx=>exact hx.elim
 |_::_::_,hx=>exact hx.2.2.elim
theorem toF{F:Far}(hX:∀ b,¬F.X b){x:IV}(hx:Bz x){v:Value}(h:@VR farNo J.none W x v):@VR F J.none W x v:=
 bz_ok (fun B _ _=>⟨J.none_has B,hX B⟩) hx h
theorem law_calls(hsim:∀ F:Far,(∀b,¬F.X b)->@Sim F J.none ⟨.leaf,0,gOf lg⟩ W){c:Array Value}(hc6:c.size=6){s:ByteArray}{a2 a3:Option Addr}{l2 c2 l3 c3:Nat}{d0 d1 d2 d3:DataW H}{p0 p1 p2 p3:List MemPlace}
 (h0:DataW.Trod enc PP W base spare held 29 (.agg c) d0 p0) (h1:DataW.Trod enc PP W base spare held 9 (.string s) d1 p1) (h2:DataW.Trod enc PP W base spare held 30 (.slice a2 l2 c2) d2 p2) (h3:DataW.Trod enc PP W base spare held 31 (.slice a3 l3 c3) d3 p3)
 (b0:B.f d0<=1048576) (b1:B.f d1<=1048576) (b2:B.f d2<=1048576) (b3:B.f d3<=1048576):
 Calls PP 3 #[.agg c,.string s,.slice a2 l2 c2,.slice a3 l3 c3] W fun e w'=>e=.returned (.bool true)∧Below W.heap.size W w':=by
 let N:PN:=⟨0,dF⟩
 obtain⟨fuel,hf⟩:=h0
 obtain⟨xs,hx⟩:=@read_all farNo PP (RT N) rtIds H enc W base spare held B (fun b hb=>hb) rows_ok13 fuel 29 _ _ hf b0 40 _ (tysOf_ok tys29)
 obtain⟨q0,q1,q2,q3,q4,q5,rfl⟩:∃ a b d e f g,c= #[a,b,d,e,f,g]:=by
  obtain⟨l⟩:=c
  match l,hc6 with
  | [a,b,d,e,f,g],_=>exact⟨a,b,d,e,f,g,rfl⟩
 obtain⟨y0,y1,y2,y3,y4,y5,rfl⟩:∃ a b d e f g,xs=[a,b,d,e,f,g]:=by
  have:=(@Rd.len farNo (RT N) W xs _ _ hx).1
  match xs,this with
  | [a,b,d,e,f,g],_=>exact⟨a,b,d,e,f,g,rfl⟩
 obtain⟨v0,t0,v1,t1,v2,t2,v3,t3,v4,t4,v5,t5,_⟩:=hx
 obtain⟨y6,v6,t6⟩:=read_one (B:=B) (N:=N) rfl tys30 h2 b2
 obtain⟨y7,v7,t7⟩:=read_one (B:=B) (N:=N) rfl tys31 h3 b3
 obtain⟨ys,vs,ts⟩:=read_one (B:=B) (N:=N) rfl tys9 h1 b1
 have hB:∀ {n:Nat} {rows:List (List IV)},TyV (RT N) (.rows n) (.fs rows)->∀ r∈rows,∀x∈r,Bz x:=fun h=>bz_rows (bz_ty h)
 obtain⟨r0,rfl⟩:=rows_inv t0
 obtain⟨r1,rfl⟩:=rows_inv t1
 obtain⟨r2,rfl⟩:=rows_inv t2
 obtain⟨r3,rfl⟩:=rows_inv t3
 obtain⟨r4,rfl⟩:=rows_inv t4
 obtain⟨r5,rfl⟩:=rows_inv t5
 obtain⟨r6,rfl⟩:=rows_inv t6
 obtain⟨r7,rfl⟩:=rows_inv t7
 obtain⟨s',rfl⟩:=str_inv ts
 have es:s'=s:=by
  have:Value.string s=.string s':=@sc_of farNo _ _ _ _ vs
  injection this with this;exact this.symm
 subst es
 have hall:∀ rows∈[r0,r1,r2,r3,r4,r5,r6,r7],∀r∈rows,∀x∈r,Bz x:=by
  intro rows hr
  simp only[List.mem_cons,List.not_mem_nil,or_false]at hr
  rcases hr with rfl |rfl |rfl |rfl |rfl |rfl |rfl |rfl
  ·exact hB t0
  ·exact hB t1
  ·exact hB t2
  ·exact hB t3
  ·exact hB t4
  ·exact hB t5
  ·exact hB t6
  ·exact hB t7
 let F:Far:=farOf s' _ hall
 have hX:∀ b,¬F.X b:=fun b h=>h
 obtain⟨a,ha,G,hG,hk⟩:=law_con F (fun e he=>by
  have he:=numb1 he
  subst he
  exact ts) (fun e he=>by
  have he:e∈([(0,0),(1,1),(2,2),(3,3),(4,4),(5,5),(6,6),(7,7)]:List (Nat×Nat)):=he
  simp only[List.mem_cons,List.not_mem_nil,or_false]at he
  rcases he with rfl |rfl |rfl |rfl |rfl |rfl |rfl |rfl
  ·exact t0
  ·exact t1
  ·exact t2
  ·exact t3
  ·exact t4
  ·exact t5
  ·exact t6
  ·exact t7) (fun r hr=>by cases hr)
 have ha:=List.mem_singleton.1 ha
 subst ha
 have hR:∀ k,k<8->F.R k=G.R k:=fun k hk=>hG.R k hk
 have hU:F.U 0=G.U 0:=hG.U 0 (by decide)
 let G':Far:={G with X:=fun _=>False}
 have hGX:∀ b,¬G'.X b:=fun b h=>h
 obtain⟨_,_,hrun⟩:=@CtOk.run G PP lg _ hk.ct G' ⟨rfl,rfl,rfl⟩
 have frz:∀ {k:Nat} {rows:List (List IV)} {v:Value} {n:Nat},k<8->F.R k=rows->TyV (RT N) (.rows n) (.fs rows)->@VR farNo J.none W (.fs rows) v->@VR G' J.none W (.fu k) v:=fun{k rows v n} hk hr ht hv=>by
  have e:G'.R k=rows:=(hR k hk).symm.trans hr
  exact @VR.fu G' J.none W k v (by rw[e];exact toF hGX (bz_ty ht) hv)
 have hargs:@VRs G' J.none W C_law.xs #[.agg #[q0,q1,q2,q3,q4,q5],.string s',.slice a2 l2 c2,.slice a3 l3 c3]:=by
  refine⟨rfl,fun k hk=> ?_⟩
  have hk:k<4:=hk
  match k,hk with
  |0,_=>
   refine @VR.agg G' J.none W [.fu 0,.fu 1,.fu 2,.fu 3,.fu 4,.fu 5] #[q0,q1,q2,q3,q4,q5] rfl fun i hi=> ?_
   have hi:i<6:=hi
   match i,hi with
   |0,_=>exact frz (by decide) rfl t0 v0
   |1,_=>exact frz (by decide) rfl t1 v1
   |2,_=>exact frz (by decide) rfl t2 v2
   |3,_=>exact frz (by decide) rfl t3 v3
   |4,_=>exact frz (by decide) rfl t4 v4
   |5,_=>exact frz (by decide) rfl t5 v5
   |i+6,hi=>exact absurd hi (by omega)
  |1,_=>
   have e:G'.U 0=.string s':=hU.symm
   show @VR G' J.none W (.un 0) (.string s')
   rw[<-e];exact @VR.un G' J.none W 0
  |2,_=>exact frz (by decide) rfl t6 v6
  |3,_=>exact frz (by decide) rfl t7 v7
  |k+4,hk=>exact absurd hk (by omega)
 refine(hrun J.none W _ (hsim G' hGX) hargs).mono ?_
 rintro e w' ⟨j',q1',q2',q3',q4'⟩
 cases e with
 |returned v=>
  have hv:@VR G' j' w' (.sc (.bool true)) v:=q4'
  cases hv
  exact⟨rfl,⟨q2'.os,q2'.tape,q2'.output,q2'.size,fun B hB=>(q2'.keep B hB (J.none_has B)).1⟩⟩
 |panicked ch=>exact q4'.elim
 |outgrown=>exact q4'.elim
end
end Go.Eng.Cons
