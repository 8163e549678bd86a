/- MatchBest. -/
import Derived.Test.YtojegdhjkcllfaaGreatDoorBkY
import Derived.Test.YtojegdhjkcllfaaGreatDoorEngD
import Derived.Test.YtojegdhjkcllfaaGreatDoorBkRunsS
import Derived.Test.YtojegdhjkcllfaaGreatDoorShelfC
namespace Go.Eng.Cons
open Go.RowKit Go.Eng Go.Proofs
set_option linter.all false
set_option maxRecDepth 100000
theorem VRs.pair [Far]{j:J}{w:World}{vs:Array Value}{a b:IV}(h:VRs j w [a,b] vs):∃ x y,vs= #[x,y]∧VR j w a x∧VR j w b y:=VRs.two h
theorem g_contains(N:PN):ConOk PP (RT N) [] C_contains:=by
 intro F hu _ _
 obtain⟨s,h0,l0⟩:=tStr (hu (0,.str 1048672) (by simp[C_contains,numb]))
 obtain⟨p,h1,l1⟩:=tStr (hu (1,.str 1048672) (by simp[C_contains,numb]))
 have key:∀ F':Far,F.Like F'->@CallR F' PP 197 [.un 0,.un 1] ⟨hOf [] .leaf,0,gOf []⟩ (.ret (.sc (.bool (contL s.data.toList p.data.toList)))) ⟨hOf [] .leaf,0,gOf []⟩:=fun F' hl=>by
  refine @callR_below F' PP 197 _ _ _ (ent b197) fun j w vs hs hv=> ?_
  obtain⟨x,y,rfl,hx,hy⟩:=VRs.pair hv
  have e0:F'.U 0=.string s:=(congrFun hl.U.symm 0).trans h0
  have e1:F'.U 1=.string p:=(congrFun hl.U.symm 1).trans h1
  cases hx with
  |un=>
  cases hy with
  |un=>
  rw[e0,e1]
  refine⟨_,fun _ _=>.sc rfl,(contains_calls s p w l0 l1).mono ?_⟩
  rintro e w' ⟨rfl,rfl⟩
  exact⟨rfl,Below.refl _ _⟩
 cases hb:contL s.data.toList p.data.toList with
 |true=>
  refine⟨⟨[],[],0,[],.ret tt,[],0⟩,by simp[C_contains],F,Far.Agree.refl _ _,⟨(fun e he=>by simp[numb]at he),(fun e he=>by simp[numb]at he),(fun r hr=>by cases hr),?_⟩⟩
  refine ctForm_ok (by rfl) fun F' hl=> ?_
  have:=key F' hl
  rw[hb]at this
  exact this
 |false=>
  refine⟨⟨[],[],0,[],.ret ff,[],0⟩,by simp[C_contains],F,Far.Agree.refl _ _,⟨(fun e he=>by simp[numb]at he),(fun e he=>by simp[numb]at he),(fun r hr=>by cases hr),?_⟩⟩
  refine ctForm_ok (by rfl) fun F' hl=> ?_
  have:=key F' hl
  rw[hb]at this
  exact this
theorem b69:(match FF 69 with |some _=>true |none=>false)=true:=by kernel_rfl
theorem b70:(match FF 70 with |some _=>true |none=>false)=true:=by kernel_rfl
theorem b71:(match FF 71 with |some _=>true |none=>false)=true:=by kernel_rfl
structure Elem(t size bytes:Nat)(i0:TypeInfo)(z:Value):Prop where
 hi:PP.info? t=some i0
 hz0:i0.zero=some z
 hz1:i0.size=size
 hz2:i0.bytes=bytes
 hzs:z.cells.size=size
theorem size_of{t:Nat}{i0:TypeInfo}{size:Nat}(hi:PP.info? t=some i0)(h:i0.size=size)(w:World):(Go.sizeOf t).run PP w=.ok size w:=by
 letI:Far:={X:=fun _=>False,U:=fun _=>.bool false,R:=fun _=>[],M:=fun _=>([],0),hU:=fun _=>rfl,hR:=fun _ _ h=>by cases h}
 rw[<-h]
 exact r_size (TOof PP) hi w
noncomputable def e51:TypeInfo:=(PP.info? 51).getD default
noncomputable def e9:TypeInfo:=(PP.info? 9).getD default
noncomputable def e54:TypeInfo:=(PP.info? 54).getD default
theorem el51:Elem 51 3 40 e51 (e51.zero.getD default):=⟨someD (by kernel_rfl),someD (by kernel_rfl),by kernel_rfl,by kernel_rfl,by kernel_rfl⟩
theorem el9:Elem 9 1 16 e9 (e9.zero.getD default):=⟨someD (by kernel_rfl),someD (by kernel_rfl),by kernel_rfl,by kernel_rfl,by kernel_rfl⟩
theorem el54:Elem 54 2 16 e54 (e54.zero.getD default):=⟨someD (by kernel_rfl),someD (by kernel_rfl),by kernel_rfl,by kernel_rfl,by kernel_rfl⟩
theorem one_str{RT:RTab}{n:Nat}{x:IV}(h:TyV RT (.str n) x):x.one=true:=by cases h;rfl
theorem one_int{RT:RTab}{k:IntKind}{x:IV}(h:TyV RT (.int k) x):x.one=true:=by cases h;rfl
theorem g_cloK(N:PN):ConOk PP (RT N) [] C_cloK:=
 clone_con (n:=10) Tryz.clK (ent b69) el51.hi el51.hz0 el51.hz1 el51.hz2 el51.hzs (by decide) (size_of el51.hi el51.hz1) (by decide) rfl rfl fun t ht x hx=>by
  have ht:t∈([.str 1048576,.str 1048576,.int .i64]:List Ty):=ht
  simp only[List.mem_cons,List.not_mem_nil,or_false]at ht
  rcases ht with rfl |rfl |rfl
  ·exact one_str hx
  ·exact one_str hx
  ·exact one_int hx
theorem g_cloS(N:PN):ConOk PP (RT N) [] C_cloS:=
 clone_con (n:=11) Tryz.clS (ent b70) el9.hi el9.hz0 el9.hz1 el9.hz2 el9.hzs (by decide) (size_of el9.hi el9.hz1) (by decide) rfl rfl fun t ht x hx=>by
  have ht:t∈([.str 1048576]:List Ty):=ht
  rw[List.mem_singleton.1 ht]at hx
  exact one_str hx
theorem g_cloB(N:PN):ConOk PP (RT N) [] C_cloB:=
 clone_con (n:=7) Tryz.clB (ent b71) el54.hi el54.hz0 el54.hz1 el54.hz2 el54.hzs (by decide) (size_of el54.hi el54.hz1) (by decide) rfl rfl fun t ht x hx=>by
  have ht:t∈([.int .u64,.int .u64]:List Ty):=ht
  simp only[List.mem_cons,List.not_mem_nil,or_false]at ht
  rcases ht with rfl |rfl<;>exact one_int hx
theorem shown_run [F:Far]:∃ H',ev SSS16 4 [] ⟨.leaf,0,gOf lg⟩=some (.ret (.sc (.bool true)),H'):=by
 have h:=@runS16 F
 unfold Memo.shows at h
 simp only[Bool.and_eq_true]at h
 obtain⟨⟨⟨⟨⟨h,_⟩,_⟩,_⟩,_⟩,_⟩:=h
 have e:ev SSS16 mmS16.g mmS16.xs ⟨hOf mmS16.l0 .leaf,mmS16.N,gOf lg⟩=ev SSS16 4 [] ⟨.leaf,0,gOf lg⟩:=rfl
 rw[e]at h
 cases hr:ev SSS16 4 [] ⟨.leaf,0,gOf lg⟩with
 |none=>rw[hr]at h;cases h
 |some r=>
  obtain⟨r,H'⟩:=r
  rw[hr]at h
  simp only[Bool.and_eq_true]at h
  have:=reqs_ok h.1.1
  refine⟨H',?_⟩
  rw[<-this];rfl
theorem g_shown(N:PN):ConOk PP (RT N) lg C_shown:=by
 intro F _ _ _
 refine⟨⟨[],[],0,[],.ret tt,[],0⟩,by simp[C_shown],F,Far.Agree.refl _ _,⟨(fun e he=>by simp[numb]at he),(fun e he=>by simp[numb]at he),(fun r hr=>by cases hr),?_⟩⟩
 refine ctForm_ok (by rfl) fun F' hl=> ?_
 obtain⟨H',hr⟩:=@shown_run F'
 obtain⟨h1,_,h3⟩:=@ev_ok F' _ (@SSS16_ok F') _ _ _ _ _ hr
 refine⟨h1,Nat.le_refl _,fun j w vs hs hv=>(h3 j w vs hs hv).mono ?_⟩
 rintro e w' ⟨j',q1,q2,q3,q4⟩
 have hn:∀ b,j b=none:=fun b=>hs.fresh b (Nat.zero_le _)
 have hh:∀ B,¬j.has B:=fun B ⟨b,d,h⟩=>by rw[hn b]at h;cases h
 have he:Ext j w j w':=⟨q2.os,q2.tape,q2.output,q2.size,fun _ _ h=>h,fun B hB hn=>⟨(q2.keep B hB hn).1,hn⟩,q2.cells⟩
 refine⟨j,⟨fun b o B d h=> ?_,fun b1 b2 o1 o2 B d1 d2 h=> ?_,hs.fresh,fun b B d h=> ?_,fun g cs h=>(hs.glob g cs h).mono he,fun B hB=>Nat.lt_of_lt_of_le (hs.far B hB) q2.size⟩,he,Stay.refl _ _,?_⟩
 ·have h:(Trie.leaf:Trie IObj).get b=some o:=h
  simp[Trie.get]at h
 ·have h:(Trie.leaf:Trie IObj).get b1=some o1:=h
  simp[Trie.get]at h
 ·rw[hn b]at h;cases h
 ·cases e with
  |returned v=>
   have hv:VR j' w' (.sc (.bool true)) v:=q4
   cases hv
   exact .sc rfl
  |panicked ch=>exact q4.elim
  |outgrown=>exact q4.elim
theorem given:Given:=⟨g_contains,g_cloK,g_cloS,g_cloB⟩
theorem law_con:ConOk PP (RT ⟨0,dF⟩) lg C_law:=full_law given g_shown (fun _ _ _=>rfl) 0
end Go.Eng.Cons
