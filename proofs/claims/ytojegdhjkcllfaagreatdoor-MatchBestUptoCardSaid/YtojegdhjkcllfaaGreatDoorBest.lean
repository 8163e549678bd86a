/- MatchBest. -/
import Derived.Test.YtojegdhjkcllfaaGreatDoorBkArgs
import Derived.Test.YtojegdhjkcllfaaGreatDoorClosedBest
import Derived.Test.YtojegdhjkcllfaaGreatDoorTie
import Derived.Test.YtojegdhjkcllfaaGreatDoorCards
import Derived.Lib.LaidTab
import Derived.Lib.LaidU8
import Derived.Shelf.Vars
import Derived.LaidMore
import Derived.WideFn
import Derived.LoneHanded
import Derived.CallAlone
import Derived.Handed
import Derived.MakeChecks
import Derived.ProofKit
import Derived.OpenShut
import Derived.Lay
import Derived.SevenTiedAt
import Derived.Stop.Joined
import Derived.Carry
import Derived.Deep.DeepHandedRow
namespace Go.Proofs.YtojegdhjkcllfaaGreatDoor
open Go.ChangeShapes Go.WideShapes Go.ChangeAt Go.RowKit Go.Eng Go.Eng.Cons
set_option linter.all false
set_option maxRecDepth 100000
set_option maxHeartbeats 2000000
theorem one_le{H:Type}(d:DataW H):1<=Rows.uptoBulk d:=by
 cases d with
 |lit l=>cases l<;>simp[Rows.uptoBulk]
 |nil=>simp[Rows.uptoBulk]
 |ptr d=>simp[Rows.uptoBulk]
 |slice elems spare=>simp[Rows.uptoBulk]
 |agg parts=>simp[Rows.uptoBulk]
 |iface t d=>simp[Rows.uptoBulk]
 |map entries=>simp[Rows.uptoBulk]
 |held h=>simp[Rows.uptoBulk]
theorem part_le{H:Type}{d:DataW H}{l:List (DataW H)}(h:d∈l):Rows.uptoBulk d<=Rows.uptoBulkAll l:=by
 induction l with
 |nil=>cases h
 |cons x r ih=>
  simp only[Rows.uptoBulkAll]
  cases List.mem_cons.1 h with
  |inl e=>subst e;omega
  |inr e=>have:=ih e;omega
theorem length_le{H:Type}(l:List (DataW H)):l.length<=Rows.uptoBulkAll l:=by
 induction l with
 |nil=>simp[Rows.uptoBulkAll]
 |cons x r ih=>have:=one_le x;simp only[Rows.uptoBulkAll,List.length_cons];omega
def bulk(H:Type):Bulk H where
 f:=Rows.uptoBulk
 str:=fun l=>by simp[Rows.uptoBulk]
 el:=fun{es sp e} h=>by have:=part_le h;simp only[Rows.uptoBulk];omega
 len:=fun es sp=>by have:=length_le es;simp only[Rows.uptoBulk];omega
 ag:=fun{ps e} h=>by have:=part_le h;simp only[Rows.uptoBulk];omega
theorem upto_bound{H:Type}{l:List (DataW H)}(hk:Rows.uptoSmall H l=true):Rows.uptoBulkAll l<=1048576:=of_decide_eq_true hk
theorem heap_of_cell{w:World}{b o:Nat}{v:Value}(h:w.cell? ⟨b,o,none⟩=some v):b<w.heap.size:=by
 rcases Nat.lt_or_ge b w.heap.size with h' |h'
 ·exact h'
 ·have:w.heap[b]? =none:=Array.getElem?_eq_none h'
  simp[World.cell?,this]at h
theorem vars_sim{W:World}(hL:laidMet PP Rows.matchBestUptoRow.laid W)(hsh:W.ShapedOpen PP)(F:Far)(hX:∀ b,¬F.X b):@Sim F J.none ⟨.leaf,0,gOf lg⟩ W:=by
 have hoff:∀ B,@J.off F J.none B:=fun B=>⟨J.none_has B,hX B⟩
 have ht:∀ i,i<tab64.length->W.cell? ⟨7,i,none⟩=some (.int .u8 (tab64.getD i 0)):=by
  have hm : ("math/bits.deBruijn64tab", (Lib.tabData .u8 tab64 : DataW Unit)) ∈ Rows.matchBestUptoRow.laid := List.mem_cons_of_mem _ (List.mem_cons_self ..)
  obtain⟨g,t,cs,fuel,p,hg,hty,hvar,hd⟩:=Lib.laidMet.reads hL hm
  obtain rfl := Option.some.inj ((show PP.globalNamed "math/bits.deBruijn64tab" = some 7 by kernel_rfl).symm.trans hg)
  obtain rfl:=Option.some.inj ((show (PP.globals[7]?).map (·.type)=some 267 by kernel_rfl).symm.trans hty)
  have hcs:=Lib.cells_of_tab (k:=.u8) (zs:=tab64) Tryz.underlying267 Tryz.underlying5 (by kernel_rfl) (by kernel_rfl) hd
  have hca:cs=(tab64.map fun z=>Value.int .u8 z).toArray:=by rw[<-hcs]
  rw[hca]at hvar
  intro i hi
  have := World.var?_cell (show PP.globalNamed "math/bits.deBruijn64tab" = some 7 by kernel_rfl) hvar i
  simpa[List.getD,hi]using this
 obtain⟨m,hmax⟩:=cell_of_shapedOpen_int (P:=PP) (g:=0) (t:=3) (zero:= #[.int .i64 0]) hsh (of_decide_eq_true (by kernel_rfl)) (by kernel_rfl) rfl (by kernel_rfl) (by kernel_rfl) Tryz.underlying3
 constructor
 ·intro b o B d h;simp[IHeap.get,Trie.get]at h
 ·intro b1 b2 o1 o2 B d1 d2 h;simp[IHeap.get,Trie.get]at h
 ·intro b _;rfl
 ·intro b B d h;simp[J.none]at h
 ·intro g cs h
  have hm:=gOf_get (show (gOf lg).get g=some cs from h)
  simp only[lg,List.mem_cons,Prod.mk.injEq,List.mem_nil_iff,or_false]at hm
  rcases hm with⟨rfl,rfl⟩ |⟨rfl,rfl⟩
  ·refine .fp (fun k=>.int .u8 (tab64.getD k 0)) (hoff _) (heap_of_cell (ht 0 (by decide))) (fun k hk=> ?_) (fun k hk=> ?_)
   ·rw[Nat.zero_add];exact ht k (by simpa using hk)
   ·have hk':k<tab64.length:=by simpa using hk
    simp only[List.getElem_map]
    have:tab64.getD k 0=tab64[k]:=by simp[List.getD,hk']
    rw[this]
    exact .sc rfl
  ·refine .fp (fun _=>.int .i64 m) (hoff _) (heap_of_cell hmax) (fun k hk=> ?_) (fun k hk=> ?_)
   ·have:k=0:=by simpa using hk
    subst this;exact hmax
   ·have:k=0:=by simpa using hk
    subst this;exact .anyi
 ·intro B hB;exact absurd hB (hX B)
theorem own:ownKnob PP.godebug=none:=by kernel_rfl
def args0:Array Value:= #[.agg #[.slice none 0 0,.slice none 0 0,.slice none 0 0,.slice none 0 0,.slice none 0 0,.slice none 0 0],.string ByteArray.empty,.slice none 0 0,.slice none 0 0]
theorem best_lifted(os:Os)(started:os.Started)(H:Type)(enc:TypeId×Value->H)(F:Stop.Interp):
 ReturnsInHanded {} Tryz.checked os 3 .any ((Rows.OpenSpec.upto Rows.matchBestSpec).preRow enc PP Tryz.f3 Rows.matchBestUptoRow.domain false Rows.matchBestUptoRow.laid) (((Rows.OpenSpec.upto Rows.matchBestSpec).at F).post enc PP Tryz.f3 false true false false):=by
 have hx:∃ places,DataW.whole enc PP ((World.laidAll PP os Rows.matchBestUptoRow.laid).forCall (fun _ _=>0) ⟨#[],args0,[]⟩).memory Tryz.f3.params.toList Rows.matchBestSpec.vars false args0.toList 8=some ([.agg [.nil,.nil,.nil,.nil,.nil,.nil],.lit (.string []),.nil,.nil],[],places):=⟨[],by kernel_rfl⟩
 obtain⟨places,hx⟩:=hx
 have hok:Input.okWideB PP ((World.laidAll PP os Rows.matchBestUptoRow.laid).forCall (fun _ _=>0) ⟨#[],args0,[]⟩) 3 ⟨#[],args0,[]⟩=true:=by kernel_rfl
 refine returnsInHanded_of_row (C:=Tryz.checked) (s:=Rows.OpenSpec.upto Rows.matchBestSpec) own started (by kernel_rfl) Tryz.func3
  ⟨World.laidAll PP os Rows.matchBestUptoRow.laid,fun _ _=>0,⟨#[],args0,[]⟩,World.laidAll_os _ _ _,World.shaped_of_ZipB (by kernel_rfl) (by kernel_rfl),(Input.okWide_of_okWideB (base:=0) hok).1,(Input.okWide_of_okWideB hok).2,
   OpenSpec.preRow_of_cond 8 hx (by kernel_rfl) (fun k hk=>by cases hk;kernel_rfl) (by kernel_rfl)
    (by rw[MakeChecks.laidMetH_plain _ _ _ (by kernel_rfl)];exact laidMet_laidAll _ (by kernel_rfl) (by kernel_rfl)),?_⟩ ?_
 ·simp only[Assume.holds]
  exact⟨by simp,by simp,fun _=>Modest.zero,by simp,by simp⟩
 intro W base args ds gs before hval0 hW hc hcond _ hL hsh _
 have hval:∀ (j:Nat) t v,Tryz.f3.params[j]? =some t->args[j]? =some v->Value.okWide PP W .any base t v:=hval0
 have hW':=hW
 obtain⟨p,q,hA0,hV,rfl,_,_⟩:=hW
 have hA:DataW.TrodAll enc PP W 0 (fun _=>true) true Tryz.f3.params.toList args.toList ds p:=hA0
 rw[Tryz.params3]at hA hval
 obtain⟨v0,vs0,d0,ds0,p0,q0,hargs,rfl,rfl,h0,r0⟩:=trodAll_cons hA
 obtain⟨v1,vs1,d1,ds1,p1,q1,rfl,rfl,rfl,h1,r1⟩:=trodAll_cons r0
 obtain⟨v2,vs2,d2,ds2,p2,q2,rfl,rfl,rfl,h2,r2⟩:=trodAll_cons r1
 obtain⟨v3,vs3,d3,ds3,p3,q3,rfl,rfl,rfl,h3,r3⟩:=trodAll_cons r2
 obtain⟨rfl,rfl,rfl⟩:=trodAll_nil r3
 obtain rfl:args= #[v0,v1,v2,v3]:=by cases args;simp_all
 obtain⟨rfl,rfl⟩:=trodVars_none hV
 have hL:laidMetH PP Rows.matchBestUptoRow.laid W:=hL
 rw[MakeChecks.laidMetH_plain _ _ _ (by kernel_rfl)]at hL
 have hb:=upto_bound (hcond _ rfl)
 have l0:∀ x∈p0,x.block<W.heap.size:=by obtain⟨m,hm⟩:=h0;exact DataW.trod_lt m _ _ _ hm
 have l1:∀ x∈p1,x.block<W.heap.size:=by obtain⟨m,hm⟩:=h1;exact DataW.trod_lt m _ _ _ hm
 have l2:∀ x∈p2,x.block<W.heap.size:=by obtain⟨m,hm⟩:=h2;exact DataW.trod_lt m _ _ _ hm
 have l3:∀ x∈p3,x.block<W.heap.size:=by obtain⟨m,hm⟩:=h3;exact DataW.trod_lt m _ _ _ hm
 obtain⟨c,rfl,hc6⟩:=okWide_struct Tryz.underlying29 (hval 0 29 v0 rfl rfl)
 obtain⟨s,rfl⟩:=okWide_string Tryz.underlying9 (hval 1 9 v1 rfl rfl)
 obtain⟨a2,l2',c2,rfl⟩:=okWide_slice Tryz.underlying30 (hval 2 30 v2 rfl rfl)
 obtain⟨a3,l3',c3,rfl⟩:=okWide_slice Tryz.underlying31 (hval 3 31 v3 rfl rfl)
 have hs29:PP.cellsOf 29=6:=by kernel_rfl
 rw[hs29]at hc6
 have mem:∀ d∈[d0,d1,d2,d3],(bulk H).f d<=1048576:=fun d hd=>Nat.le_trans (part_le (List.mem_append_left _ hd)) hb
 refine(law_calls (B:=bulk H) (fun F hX=>vars_sim hL hsh F hX) hc6 h0 h1 h2 h3 (mem _ (by simp)) (mem _ (by simp)) (mem _ (by simp)) (mem _ (by simp))).mono fun e W' ⟨he,hbl⟩=> ?_
 subst he
 have rd:∀ t∈[29,9,30,31],PP.readableRec t=true∧t<PP.types.size:=fun t ht=>by
  have hall:([29,9,30,31].all fun t=>PP.readableRec t&&decide (t<PP.types.size))=true:=by kernel_rfl
  have:=List.all_eq_true.1 hall t ht
  simp only[Bool.and_eq_true,decide_eq_true_eq]at this
  exact this
 exact⟨_,rfl,_,_,_,[],_,[],hW',trodAll_mk1 (shut_bool Tryz.underlying4 _),
  trodAll_cons_mk (Below.trod seat_laidOut (rd 29 (by simp)).1 (rd 29 (by simp)).2 h0 hbl l0) (trodAll_cons_mk (Below.trod seat_laidOut (rd 9 (by simp)).1 (rd 9 (by simp)).2 h1 hbl l1)
   (trodAll_cons_mk (Below.trod seat_laidOut (rd 30 (by simp)).1 (rd 30 (by simp)).2 h2 hbl l2) (trodAll_cons_mk (Below.trod seat_laidOut (rd 31 (by simp)).1 (rd 31 (by simp)).2 h3 hbl l3) trodAll_mk0))),rfl,hbl.frame _,fun h=>by cases h⟩
theorem best_func:PP.funcNamed Rows.matchBestUptoRow.func=some 3:=by kernel_rfl
theorem best_row:Rows.MatchBestUptoSaid:=
 OpenClaim.holds_of_cond 3 Tryz.f3 rfl rfl rfl rfl rfl rfl rfl ⟨rfl,rfl,rfl,rfl,rfl⟩ rfl rfl rfl rfl rfl best_func Tryz.func3 best_closed
  (of_decide_eq_true (by kernel_rfl)) (by unfold Func.isWrapper;first |(rw[if_pos (by decide+kernel)];kernel_rfl) |(rw[if_neg (by decide+kernel)];exact⟨rfl,rfl⟩))
  (fun os started H enc _ F=>by rw[OpenClaim.pre_eq_preRow];exact best_lifted os started H enc F)
theorem matchBestUpto_holds:Rows.MatchBestUptoCardSaid:=
 Claim7.holds_tied_plain_at .later [] _ _ _ _ best_row (fun _ h=>by cases h) (by as_aux_lemma=>kernel_rfl) (fun _ h=>by cases h) matchBestUpto_row_tie rfl ⟨rfl,rfl⟩ (by as_aux_lemma=>kernel_rfl) rfl
  (fun f fn hf hfn=>by
   obtain rfl : f = 3 := Option.some.inj ((show PP.funcNamed "turnout/turnoutlaw11.MatchBest" = some 3 from best_func).symm.trans hf) |>.symm
   obtain rfl:fn=Tryz.f3:=(Option.some.inj (Tryz.func3.symm.trans hfn)).symm
   exact⟨by as_aux_lemma=>kernel_rfl,fun j t ht=>by
    rw[Tryz.params3]at ht
    have hm:t∈[29,9,30,31]:=by simpa using Array.mem_of_getElem? ht
    have hall:([29,9,30,31].all fun u=> !PP.wantsStandIn u)=true:=by as_aux_lemma=>kernel_rfl
    exact(show PP.wantsStandIn t=false by simpa using List.all_eq_true.1 hall t hm)⟩)
  (by as_aux_lemma=>kernel_rfl)
#print axioms matchBestUpto_holds
end Go.Proofs.YtojegdhjkcllfaaGreatDoor
