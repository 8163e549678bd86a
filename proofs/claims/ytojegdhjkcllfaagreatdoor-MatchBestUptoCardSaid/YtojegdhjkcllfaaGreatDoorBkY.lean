/- MatchBest. -/
import Derived.Test.YtojegdhjkcllfaaGreatDoorBkZ
namespace Go.Eng.Cons
open Go.RowKit Go.Eng
set_option linter.all false
set_option maxRecDepth 100000
def DT.put(d:DT)(q:Nat)(f:FnT):DT:=fun k=>if k=q then f else d k
noncomputable def dv49:DT:=fun _ _ _=>default
noncomputable def dv50:DT:=dv49.put 50 (pick PP (RT ⟨0,dv49⟩) [] C_tableAt)
noncomputable def dv51:DT:=dv50.put 51 (pick PP (RT ⟨0,dv50⟩) [] (C_of.freeze Z_of))
noncomputable def dv52:DT:=dv51.put 52 (pick PP (RT ⟨0,dv51⟩) [] C_who)
noncomputable def dv53:DT:=dv52.put 53 (pick PP (RT ⟨0,dv52⟩) [] C_key)
noncomputable def dv54:DT:=dv53.put 54 (pick PP (RT ⟨0,dv53⟩) [] C_hits)
noncomputable def dF:DT:=dv54
def Ag(m:Nat)(d:DT):Prop:=∀ q,50<=q->q<m->d q=dF q
theorem Ag.le{m m':Nat}{d:DT}(h:Ag m d)(hm:m'<=m):Ag m' d:=fun q h1 h2=>h q h1 (by omega)
theorem ag_49:Ag 50 dv49:=fun k h1 h2=>by
 omega
theorem ag_50:Ag 51 dv50:=fun k h1 h2=>by
 have hk:k=50:=by omega
 rcases hk with rfl<;>rfl
theorem ag_51:Ag 52 dv51:=fun k h1 h2=>by
 have hk:k=50∨k=51:=by omega
 rcases hk with rfl |rfl<;>rfl
theorem ag_52:Ag 53 dv52:=fun k h1 h2=>by
 have hk:k=50∨k=51∨k=52:=by omega
 rcases hk with rfl |rfl |rfl<;>rfl
theorem ag_53:Ag 54 dv53:=fun k h1 h2=>by
 have hk:k=50∨k=51∨k=52∨k=53:=by omega
 rcases hk with rfl |rfl |rfl |rfl<;>rfl
theorem ag_54:Ag 55 dv54:=fun k h1 h2=>by
 have hk:k=50∨k=51∨k=52∨k=53∨k=54:=by omega
 rcases hk with rfl |rfl |rfl |rfl |rfl<;>rfl
structure Given:Prop where
 contains:∀ N:PN,ConOk PP (RT N) [] C_contains
 cloK:∀ N:PN,ConOk PP (RT N) [] C_cloK
 cloS:∀ N:PN,ConOk PP (RT N) [] C_cloS
 cloB:∀ N:PN,ConOk PP (RT N) [] C_cloB
def Pv(m:Nat)(l:List Con):Prop:=∀ d:DT,Ag m d->∀ C∈l,∀n,ConOk PP (RT ⟨n,d⟩) [] C
theorem Pv.add{m m':Nat}{l l':List Con}{C0:Con}(h:Pv m l)(hm:m<=m')(hl:l'=l++[C0])(h0:∀ {d:DT},Ag m' d->∀ n,ConOk PP (RT ⟨n,d⟩) [] C0):Pv m' l':=fun _ ha C hC=>by
 rw[hl]at hC
 rcases List.mem_append.1 hC with hC |hC
 ·exact h _ (ha.le hm) C hC
 ·rw[List.mem_singleton.1 hC];exact h0 ha
theorem v_0:Pv 50 []:=fun _ _ C h=>by cases h
theorem v_1(G:Given):Pv 50 p_ixA:=Pv.add (v_0) (by decide) rfl (fun h n=>c_ixH (v_0 _ (h.le (by decide))) n)
theorem v_2(G:Given):Pv 50 p_ixT:=Pv.add (v_1 G) (by decide) rfl (fun h n=>c_ixA (v_1 G _ (h.le (by decide))) n)
theorem v_3(G:Given):Pv 50 p_ixF:=Pv.add (v_2 G) (by decide) rfl (fun h n=>c_ixT (v_2 G _ (h.le (by decide))) n)
theorem v_4(G:Given):Pv 50 p_ixK:=Pv.add (v_3 G) (by decide) rfl (fun h n=>c_ixF (v_3 G _ (h.le (by decide))) n)
theorem v_5(G:Given):Pv 50 p_ixS:=Pv.add (v_4 G) (by decide) rfl (fun h n=>c_ixK (v_4 G _ (h.le (by decide))) n)
theorem v_6(G:Given):Pv 50 p_headerAt:=Pv.add (v_5 G) (by decide) rfl (fun h n=>c_ixS (v_5 G _ (h.le (by decide))) n)
theorem v_7(G:Given):Pv 50 p_actionAt:=Pv.add (v_6 G) (by decide) rfl (fun h n=>c_headerAt (v_6 G _ (h.le (by decide))) n)
theorem v_8(G:Given):Pv 50 p_tableAt:=Pv.add (v_7 G) (by decide) rfl (fun h n=>c_actionAt (v_7 G _ (h.le (by decide))) n)
theorem v_9(G:Given):Pv 51 p_fieldAt:=Pv.add (v_8 G) (by decide) rfl (fun h n=>cP_tableAt (d0:=dv49) (h 50 (by decide) (by decide)) (fun q h1 h2=>(ag_49 q h1 (by omega)).trans (h q h1 (by omega)).symm) (v_8 G _ ag_49) n)
theorem v_10(G:Given):Pv 51 p_fieldOf:=Pv.add (v_9 G) (by decide) rfl (fun h n=>c_fieldAt (v_9 G _ (h.le (by decide))) n)
theorem v_11(G:Given):Pv 51 p_fits:=Pv.add (v_10 G) (by decide) rfl (fun h n=>c_fieldOf (v_10 G _ (h.le (by decide))) n)
theorem v_12(G:Given):Pv 51 p_plain:=Pv.add (v_11 G) (by decide) rfl (fun h n=>c_fits (v_11 G _ (h.le (by decide))) n)
theorem v_13(G:Given):Pv 51 [C_ixHP,C_ixAP,C_ixTP,C_ixFP,C_ixKP,C_ixSP,C_headerAtP,C_actionAtP,C_tableAtP,C_fieldAtP,C_fieldOfP,C_fitsP,C_plainP]:=Pv.add (v_12 G) (by decide) rfl (fun h n=>c_plain (v_12 G _ (h.le (by decide))) n)
theorem v_14(G:Given):Pv 51 p_isName:=Pv.add (v_13 G) (by decide) rfl (fun _ n=>G.contains _)
theorem v_15(G:Given):Pv 51 p_name:=Pv.add (v_14 G) (by decide) rfl (fun h n=>c_isName (v_14 G _ (h.le (by decide))) n)
theorem v_16(G:Given):Pv 51 p_fields:=Pv.add (v_15 G) (by decide) rfl (fun h n=>c_name (v_15 G _ (h.le (by decide))) n)
theorem v_17(G:Given):Pv 51 p_headers:=Pv.add (v_16 G) (by decide) rfl (fun h n=>c_fields (v_16 G _ (h.le (by decide))) n)
theorem v_18(G:Given):Pv 51 p_Width:=Pv.add (v_17 G) (by decide) rfl (fun h n=>c_headers (v_17 G _ (h.le (by decide))) n)
theorem v_19(G:Given):Pv 51 p_Kind:=Pv.add (v_18 G) (by decide) rfl (fun h n=>c_Width (v_18 G _ (h.le (by decide))) n)
theorem v_20(G:Given):Pv 51 p_Call:=Pv.add (v_19 G) (by decide) rfl (fun h n=>c_Kind (v_19 G _ (h.le (by decide))) n)
theorem v_21(G:Given):Pv 51 p_step:=Pv.add (v_20 G) (by decide) rfl (fun h n=>c_Call (v_20 G _ (h.le (by decide))) n)
theorem v_22(G:Given):Pv 51 p_actions:=Pv.add (v_21 G) (by decide) rfl (fun h n=>c_step (v_21 G _ (h.le (by decide))) n)
theorem v_23(G:Given):Pv 51 p_tables:=Pv.add (v_22 G) (by decide) rfl (fun h n=>c_actions (v_22 G _ (h.le (by decide))) n)
theorem v_24(G:Given):Pv 51 p_test:=Pv.add (v_23 G) (by decide) rfl (fun h n=>c_tables (v_23 G _ (h.le (by decide))) n)
theorem v_25(G:Given):Pv 51 p_stage:=Pv.add (v_24 G) (by decide) rfl (fun h n=>c_test (v_24 G _ (h.le (by decide))) n)
theorem v_26(G:Given):Pv 51 p_walkTT:=Pv.add (v_25 G) (by decide) rfl (fun h n=>c_stage (v_25 G _ (h.le (by decide))) n)
theorem v_27(G:Given):Pv 51 p_walkTF:=Pv.add (v_26 G) (by decide) rfl (fun h n=>c_walkTT (v_26 G _ (h.le (by decide))) n)
theorem v_28(G:Given):Pv 51 p_tall:=Pv.add (v_27 G) (by decide) rfl (fun h n=>c_walkTF (v_27 G _ (h.le (by decide))) n)
theorem v_29(G:Given):Pv 51 p_walkS:=Pv.add (v_28 G) (by decide) rfl (fun h n=>c_tall (v_28 G _ (h.le (by decide))) n)
theorem v_30(G:Given):Pv 51 p_walkS0:=Pv.add (v_29 G) (by decide) rfl (fun h n=>c_walkS (v_29 G _ (h.le (by decide))) n)
theorem v_31(G:Given):Pv 51 p_rounds:=Pv.add (v_30 G) (by decide) rfl (fun h n=>c_walkS0 (v_30 G _ (h.le (by decide))) n)
theorem v_32(G:Given):Pv 51 p_states:=Pv.add (v_31 G) (by decide) rfl (fun h n=>c_rounds (v_31 G _ (h.le (by decide))) n)
theorem v_33(G:Given):Pv 51 p_Check:=Pv.add (v_32 G) (by decide) rfl (fun h n=>c_states (v_32 G _ (h.le (by decide))) n)
theorem v_34(G:Given):Pv 51 p_Widths:=Pv.add (v_33 G) (by decide) rfl (fun h n=>c_Check (v_33 G _ (h.le (by decide))) n)
theorem v_35(G:Given):Pv 51 p_kinds:=Pv.add (v_34 G) (by decide) rfl (fun h n=>cF_Widths (v_34 G _ (h.le (by decide))) n)
theorem v_36(G:Given):Pv 51 [C_ixHP,C_ixAP,C_ixTP,C_ixFP,C_ixKP,C_ixSP,C_headerAtP,C_actionAtP,C_tableAtP,C_fieldAtP,C_fieldOfP,C_fitsP,C_plainP,C_containsP,C_isNameP,C_nameP,C_fieldsP,C_headersP,C_WidthP,C_KindP,C_CallP,C_stepP,C_actionsP,C_tablesP,C_testP,C_stageP,C_walkTTP,C_walkTFP,C_tallP,C_walkSP,C_walkS0P,C_roundsP,C_statesP,C_CheckP,C_WidthsP,C_kindsP]:=Pv.add (v_35 G) (by decide) rfl (fun h n=>cF_kinds (v_35 G _ (h.le (by decide))) n)
theorem v_37(G:Given):Pv 51 [C_ixHP,C_ixAP,C_ixTP,C_ixFP,C_ixKP,C_ixSP,C_headerAtP,C_actionAtP,C_tableAtP,C_fieldAtP,C_fieldOfP,C_fitsP,C_plainP,C_containsP,C_isNameP,C_nameP,C_fieldsP,C_headersP,C_WidthP,C_KindP,C_CallP,C_stepP,C_actionsP,C_tablesP,C_testP,C_stageP,C_walkTTP,C_walkTFP,C_tallP,C_walkSP,C_walkS0P,C_roundsP,C_statesP,C_CheckP,C_WidthsP,C_kindsP,C_cloKP]:=Pv.add (v_36 G) (by decide) rfl (fun _ n=>G.cloK _)
theorem v_38(G:Given):Pv 51 [C_ixHP,C_ixAP,C_ixTP,C_ixFP,C_ixKP,C_ixSP,C_headerAtP,C_actionAtP,C_tableAtP,C_fieldAtP,C_fieldOfP,C_fitsP,C_plainP,C_containsP,C_isNameP,C_nameP,C_fieldsP,C_headersP,C_WidthP,C_KindP,C_CallP,C_stepP,C_actionsP,C_tablesP,C_testP,C_stageP,C_walkTTP,C_walkTFP,C_tallP,C_walkSP,C_walkS0P,C_roundsP,C_statesP,C_CheckP,C_WidthsP,C_kindsP,C_cloKP,C_cloSP]:=Pv.add (v_37 G) (by decide) rfl (fun _ n=>G.cloS _)
theorem v_39(G:Given):Pv 51 p_of:=Pv.add (v_38 G) (by decide) rfl (fun _ n=>G.cloB _)
theorem v_40(G:Given):Pv 52 p_ones:=Pv.add (v_39 G) (by decide) rfl (fun h n=>cP_of (d0:=dv50) (h 51 (by decide) (by decide)) (fun q h1 h2=>(ag_50 q h1 (by omega)).trans (h q h1 (by omega)).symm) (v_39 G _ ag_50) n)
theorem v_41(G:Given):Pv 52 p_may1:=Pv.add (v_40 G) (by decide) rfl (fun h n=>c_ones (v_40 G _ (h.le (by decide))) n)
theorem v_42(G:Given):Pv 52 p_may2:=Pv.add (v_41 G) (by decide) rfl (fun h n=>c_may1 (v_41 G _ (h.le (by decide))) n)
theorem v_43(G:Given):Pv 52 p_may3:=Pv.add (v_42 G) (by decide) rfl (fun h n=>c_may2 (v_42 G _ (h.le (by decide))) n)
theorem v_44(G:Given):Pv 52 p_may4:=Pv.add (v_43 G) (by decide) rfl (fun h n=>c_may3 (v_43 G _ (h.le (by decide))) n)
theorem v_45(G:Given):Pv 52 p_hits1:=Pv.add (v_44 G) (by decide) rfl (fun h n=>c_may4 (v_44 G _ (h.le (by decide))) n)
theorem v_46(G:Given):Pv 52 p_hits2:=Pv.add (v_45 G) (by decide) rfl (fun h n=>c_hits1 (v_45 G _ (h.le (by decide))) n)
theorem v_47(G:Given):Pv 52 p_hits3:=Pv.add (v_46 G) (by decide) rfl (fun h n=>c_hits2 (v_46 G _ (h.le (by decide))) n)
theorem v_48(G:Given):Pv 52 p_hits4:=Pv.add (v_47 G) (by decide) rfl (fun h n=>c_hits3 (v_47 G _ (h.le (by decide))) n)
theorem v_49(G:Given):Pv 52 p_who:=Pv.add (v_48 G) (by decide) rfl (fun h n=>c_hits4 (v_48 G _ (h.le (by decide))) n)
theorem v_50(G:Given):Pv 53 p_allK:=Pv.add (v_49 G) (by decide) rfl (fun h n=>cP_who (d0:=dv51) (h 52 (by decide) (by decide)) (fun q h1 h2=>(ag_51 q h1 (by omega)).trans (h q h1 (by omega)).symm) (v_49 G _ ag_51) n)
theorem v_51(G:Given):Pv 53 p_key:=Pv.add (v_50 G) (by decide) rfl (fun h n=>c_allK (v_50 G _ (h.le (by decide))) n)
theorem v_52(G:Given):Pv 54 p_allH:=Pv.add (v_51 G) (by decide) rfl (fun h n=>cP_key (d0:=dv52) (h 53 (by decide) (by decide)) (fun q h1 h2=>(ag_52 q h1 (by omega)).trans (h q h1 (by omega)).symm) (v_51 G _ ag_52) n)
theorem v_53(G:Given):Pv 54 p_hits:=Pv.add (v_52 G) (by decide) rfl (fun h n=>c_allH (v_52 G _ (h.le (by decide))) n)
theorem v_54(G:Given):Pv 55 p_compI:=Pv.add (v_53 G) (by decide) rfl (fun h n=>cP_hits (d0:=dv53) (h 54 (by decide) (by decide)) (fun q h1 h2=>(ag_53 q h1 (by omega)).trans (h q h1 (by omega)).symm) (v_53 G _ ag_53) n)
theorem v_55(G:Given):Pv 55 p_compU:=Pv.add (v_54 G) (by decide) rfl (fun h n=>c_compI (v_54 G _ (h.le (by decide))) n)
theorem v_56(G:Given):Pv 55 p_compB:=Pv.add (v_55 G) (by decide) rfl (fun h n=>c_compU (v_55 G _ (h.le (by decide))) n)
theorem v_57(G:Given):Pv 55 p_compM:=Pv.add (v_56 G) (by decide) rfl (fun h n=>c_compB (v_56 G _ (h.le (by decide))) n)
theorem v_58(G:Given):Pv 55 p_compL:=Pv.add (v_57 G) (by decide) rfl (fun h n=>c_compM (v_57 G _ (h.le (by decide))) n)
theorem v_59(G:Given):Pv 55 p_order:=Pv.add (v_58 G) (by decide) rfl (fun h n=>c_compL (v_58 G _ (h.le (by decide))) n)
theorem v_60(G:Given):Pv 55 p_hit:=Pv.add (v_59 G) (by decide) rfl (fun h n=>c_order (v_59 G _ (h.le (by decide))) n)
theorem v_61(G:Given):Pv 55 p_best:=Pv.add (v_60 G) (by decide) rfl (fun h n=>c_hit (v_60 G _ (h.le (by decide))) n)
theorem v_62(G:Given):Pv 55 [C_ixHP,C_ixAP,C_ixTP,C_ixFP,C_ixKP,C_ixSP,C_headerAtP,C_actionAtP,C_tableAtP,C_fieldAtP,C_fieldOfP,C_fitsP,C_plainP,C_containsP,C_isNameP,C_nameP,C_fieldsP,C_headersP,C_WidthP,C_KindP,C_CallP,C_stepP,C_actionsP,C_tablesP,C_testP,C_stageP,C_walkTTP,C_walkTFP,C_tallP,C_walkSP,C_walkS0P,C_roundsP,C_statesP,C_CheckP,C_WidthsP,C_kindsP,C_cloKP,C_cloSP,C_cloBP,C_ofP,C_onesP,C_may1P,C_may2P,C_may3P,C_may4P,C_hits1P,C_hits2P,C_hits3P,C_hits4P,C_whoP,C_allKP,C_keyP,C_allHP,C_hitsP,C_compIP,C_compUP,C_compBP,C_compMP,C_compLP,C_orderP,C_hitP,C_bestP]:=Pv.add (v_61 G) (by decide) rfl (fun h n=>c_best (v_61 G _ (h.le (by decide))) n)
theorem full_law(G:Given)(hs:∀ N:PN,ConOk PP (RT N) lg C_shown){d:DT}(h:Ag 55 d)(n:Nat):ConOk PP (RT ⟨n,d⟩) lg C_law:=
 c_law (fun C hC=>(List.mem_append.1 (show C∈[C_ixHP,C_ixAP,C_ixTP,C_ixFP,C_ixKP,C_ixSP,C_headerAtP,C_actionAtP,C_tableAtP,C_fieldAtP,C_fieldOfP,C_fitsP,C_plainP,C_containsP,C_isNameP,C_nameP,C_fieldsP,C_headersP,C_WidthP,C_KindP,C_CallP,C_stepP,C_actionsP,C_tablesP,C_testP,C_stageP,C_walkTTP,C_walkTFP,C_tallP,C_walkSP,C_walkS0P,C_roundsP,C_statesP,C_CheckP,C_WidthsP,C_kindsP,C_cloKP,C_cloSP,C_cloBP,C_ofP,C_onesP,C_may1P,C_may2P,C_may3P,C_may4P,C_hits1P,C_hits2P,C_hits3P,C_hits4P,C_whoP,C_allKP,C_keyP,C_allHP,C_hitsP,C_compIP,C_compUP,C_compBP,C_compMP,C_compLP,C_orderP,C_hitP,C_bestP]++[C_shownP]from hC)).elim (fun hC n=>con_glob (v_62 G _ h C hC n)) fun hC n=>by rw[List.mem_singleton.1 hC];exact hs _) n
end Go.Eng.Cons
