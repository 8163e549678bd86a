/- MatchBest. -/
import Derived.Test.YtojegdhjkcllfaaGreatDoorBk0
import Derived.Test.YtojegdhjkcllfaaGreatDoorBk1
import Derived.Test.YtojegdhjkcllfaaGreatDoorBk2
import Derived.Test.YtojegdhjkcllfaaGreatDoorBk3
import Derived.Test.YtojegdhjkcllfaaGreatDoorBk4
import Derived.Test.YtojegdhjkcllfaaGreatDoorBk5
import Derived.Test.YtojegdhjkcllfaaGreatDoorBk6
import Derived.Test.YtojegdhjkcllfaaGreatDoorBk7
import Derived.Test.YtojegdhjkcllfaaGreatDoorBk8
import Derived.Test.YtojegdhjkcllfaaGreatDoorBk9
import Derived.Test.YtojegdhjkcllfaaGreatDoorBk10
import Derived.Test.YtojegdhjkcllfaaGreatDoorBk11
namespace Go.Eng.Cons
open Go.RowKit Go.Eng
set_option linter.all false
set_option maxRecDepth 100000
abbrev DT:=Nat->List IV->List (List (List IV))->List IV×List (List (List IV))
theorem lg_nl:nlG lg=true:=by kernel_rfl
theorem lg_tree:lg.all (fun e=>e.2.all (tree 30))=true:=by kernel_rfl
theorem lg0:([]:LgT).all (fun e=>e.2.all (tree 30))=true:=rfl
theorem k_ixH:Chk C_ixH p_ixH t_ixH [] false:=fun _=>by kernel_rfl
theorem e_ixH:Ends C_ixH p_ixH t_ixH [] false f_ixH:=fun _ _=>by kernel_rfl
theorem c_ixH{d:DT}(h:∀ C∈p_ixH,∀n,ConOk PP (RT ⟨n,d⟩) [] C)(n:Nat):ConOk PP (RT ⟨n,d⟩) [] C_ixH:=
 mk (n:=5) (by kernel_rfl) (by kernel_rfl) k_ixH e_ixH (by kernel_rfl) rfl lg0 ixH_0 (fun C hC=>h C hC n)
theorem k_ixA:Chk C_ixA p_ixA t_ixA [] false:=fun _=>by kernel_rfl
theorem e_ixA:Ends C_ixA p_ixA t_ixA [] false f_ixA:=fun _ _=>by kernel_rfl
theorem c_ixA{d:DT}(h:∀ C∈p_ixA,∀n,ConOk PP (RT ⟨n,d⟩) [] C)(n:Nat):ConOk PP (RT ⟨n,d⟩) [] C_ixA:=
 mk (n:=5) (by kernel_rfl) (by kernel_rfl) k_ixA e_ixA (by kernel_rfl) rfl lg0 ixA_0 (fun C hC=>h C hC n)
theorem k_ixT:Chk C_ixT p_ixT t_ixT [] false:=fun _=>by kernel_rfl
theorem e_ixT:Ends C_ixT p_ixT t_ixT [] false f_ixT:=fun _ _=>by kernel_rfl
theorem c_ixT{d:DT}(h:∀ C∈p_ixT,∀n,ConOk PP (RT ⟨n,d⟩) [] C)(n:Nat):ConOk PP (RT ⟨n,d⟩) [] C_ixT:=
 mk (n:=5) (by kernel_rfl) (by kernel_rfl) k_ixT e_ixT (by kernel_rfl) rfl lg0 ixT_0 (fun C hC=>h C hC n)
theorem k_ixF:Chk C_ixF p_ixF t_ixF [] false:=fun _=>by kernel_rfl
theorem e_ixF:Ends C_ixF p_ixF t_ixF [] false f_ixF:=fun _ _=>by kernel_rfl
theorem c_ixF{d:DT}(h:∀ C∈p_ixF,∀n,ConOk PP (RT ⟨n,d⟩) [] C)(n:Nat):ConOk PP (RT ⟨n,d⟩) [] C_ixF:=
 mk (n:=5) (by kernel_rfl) (by kernel_rfl) k_ixF e_ixF (by kernel_rfl) rfl lg0 ixF_0 (fun C hC=>h C hC n)
theorem k_ixK:Chk C_ixK p_ixK t_ixK [] false:=fun _=>by kernel_rfl
theorem e_ixK:Ends C_ixK p_ixK t_ixK [] false f_ixK:=fun _ _=>by kernel_rfl
theorem c_ixK{d:DT}(h:∀ C∈p_ixK,∀n,ConOk PP (RT ⟨n,d⟩) [] C)(n:Nat):ConOk PP (RT ⟨n,d⟩) [] C_ixK:=
 mk (n:=5) (by kernel_rfl) (by kernel_rfl) k_ixK e_ixK (by kernel_rfl) rfl lg0 ixK_0 (fun C hC=>h C hC n)
theorem k_ixS:Chk C_ixS p_ixS t_ixS [] false:=fun _=>by kernel_rfl
theorem e_ixS:Ends C_ixS p_ixS t_ixS [] false f_ixS:=fun _ _=>by kernel_rfl
theorem c_ixS{d:DT}(h:∀ C∈p_ixS,∀n,ConOk PP (RT ⟨n,d⟩) [] C)(n:Nat):ConOk PP (RT ⟨n,d⟩) [] C_ixS:=
 mk (n:=5) (by kernel_rfl) (by kernel_rfl) k_ixS e_ixS (by kernel_rfl) rfl lg0 ixS_0 (fun C hC=>h C hC n)
theorem k_headerAt:Chk C_headerAt p_headerAt t_headerAt [] false:=fun _=>by kernel_rfl
theorem e_headerAt:Ends C_headerAt p_headerAt t_headerAt [] false f_headerAt:=fun _ _=>by kernel_rfl
theorem c_headerAt{d:DT}(h:∀ C∈p_headerAt,∀n,ConOk PP (RT ⟨n,d⟩) [] C)(n:Nat):ConOk PP (RT ⟨n,d⟩) [] C_headerAt:=
 mk (n:=1) (by kernel_rfl) (by kernel_rfl) k_headerAt e_headerAt (by kernel_rfl) rfl lg0 headerAt_0 (fun C hC=>h C hC n)
theorem k_actionAt:Chk C_actionAt p_actionAt t_actionAt [] false:=fun _=>by kernel_rfl
theorem e_actionAt:Ends C_actionAt p_actionAt t_actionAt [] false f_actionAt:=fun _ _=>by kernel_rfl
theorem c_actionAt{d:DT}(h:∀ C∈p_actionAt,∀n,ConOk PP (RT ⟨n,d⟩) [] C)(n:Nat):ConOk PP (RT ⟨n,d⟩) [] C_actionAt:=
 mk (n:=1) (by kernel_rfl) (by kernel_rfl) k_actionAt e_actionAt (by kernel_rfl) rfl lg0 actionAt_0 (fun C hC=>h C hC n)
theorem k_tableAt:Chk C_tableAt p_tableAt t_tableAt [] false:=fun _=>by kernel_rfl
theorem e_tableAt:Ends C_tableAt p_tableAt t_tableAt [] false f_tableAt:=fun _ _=>by kernel_rfl
theorem c_tableAt{d:DT}(h:∀ C∈p_tableAt,∀n,ConOk PP (RT ⟨n,d⟩) [] C)(n:Nat):ConOk PP (RT ⟨n,d⟩) [] C_tableAt:=
 mk (n:=1) (by kernel_rfl) (by kernel_rfl) k_tableAt e_tableAt (by kernel_rfl) rfl lg0 tableAt_0 (fun C hC=>h C hC n)
theorem cP_tableAt{d d0:DT}(hd:d 50=pick PP (RT ⟨0,d0⟩) [] C_tableAt)(hN:∀ q,50<=q->q<50->d0 q=d q)(h:∀ C∈p_tableAt,∀n,ConOk PP (RT ⟨n,d0⟩) [] C)(n:Nat):ConOk PP (RT ⟨n,d⟩) [] C_tableAtP:=fn_ok (N:=⟨0,d0⟩) (N':=⟨n,d⟩) (c_tableAt h 0) rfl hN rfl rfl rfl rfl rfl hd
theorem k_fieldAt:Chk C_fieldAt p_fieldAt t_fieldAt [] false:=fun _=>by kernel_rfl
theorem e_fieldAt:Ends C_fieldAt p_fieldAt t_fieldAt [] false f_fieldAt:=fun _ _=>by kernel_rfl
theorem c_fieldAt{d:DT}(h:∀ C∈p_fieldAt,∀n,ConOk PP (RT ⟨n,d⟩) [] C)(n:Nat):ConOk PP (RT ⟨n,d⟩) [] C_fieldAt:=
 mk (n:=1) (by kernel_rfl) (by kernel_rfl) k_fieldAt e_fieldAt (by kernel_rfl) rfl lg0 fieldAt_0 (fun C hC=>h C hC n)
theorem k_fieldOf:Chk C_fieldOf p_fieldOf t_fieldOf [] false:=fun _=>by kernel_rfl
theorem e_fieldOf:Ends C_fieldOf p_fieldOf t_fieldOf [] false f_fieldOf:=fun _ _=>by kernel_rfl
theorem c_fieldOf{d:DT}(h:∀ C∈p_fieldOf,∀n,ConOk PP (RT ⟨n,d⟩) [] C)(n:Nat):ConOk PP (RT ⟨n,d⟩) [] C_fieldOf:=
 mk (n:=6) (by kernel_rfl) (by kernel_rfl) k_fieldOf e_fieldOf (by kernel_rfl) rfl lg0 fieldOf_0 (fun C hC=>h C hC n)
theorem k_fits:Chk C_fits p_fits t_fits [] false:=fun _=>by kernel_rfl
theorem e_fits:Ends C_fits p_fits t_fits [] false f_fits:=fun _ _=>by kernel_rfl
theorem c_fits{d:DT}(h:∀ C∈p_fits,∀n,ConOk PP (RT ⟨n,d⟩) [] C)(n:Nat):ConOk PP (RT ⟨n,d⟩) [] C_fits:=
 mk (n:=9) (by kernel_rfl) (by kernel_rfl) k_fits e_fits (by kernel_rfl) rfl lg0 (AllI_app fits_0 fits_6) (fun C hC=>h C hC n)
theorem k_plain:Chk C_plain p_plain t_plain [] false:=fun _=>by kernel_rfl
theorem e_plain:Ends C_plain p_plain t_plain [] false f_plain:=fun _ _=>by kernel_rfl
theorem c_plain{d:DT}(h:∀ C∈p_plain,∀n,ConOk PP (RT ⟨n,d⟩) [] C)(n:Nat):ConOk PP (RT ⟨n,d⟩) [] C_plain:=
 mk (n:=3) (by kernel_rfl) (by kernel_rfl) k_plain e_plain (by kernel_rfl) rfl lg0 plain_0 (fun C hC=>h C hC n)
theorem k_isName:Chk C_isName p_isName t_isName [] false:=fun _=>by kernel_rfl
theorem e_isName:Ends C_isName p_isName t_isName [] false f_isName:=fun _ _=>by kernel_rfl
theorem c_isName{d:DT}(h:∀ C∈p_isName,∀n,ConOk PP (RT ⟨n,d⟩) [] C)(n:Nat):ConOk PP (RT ⟨n,d⟩) [] C_isName:=
 mk (n:=22) (by kernel_rfl) (by kernel_rfl) k_isName e_isName (by kernel_rfl) rfl lg0 (AllI_app isName_0 (AllI_app isName_6 (AllI_app isName_12 isName_18))) (fun C hC=>h C hC n)
theorem k_name:Chk C_name p_name t_name [] false:=fun _=>by kernel_rfl
theorem e_name:Ends C_name p_name t_name [] false f_name:=fun _ _=>by kernel_rfl
theorem c_name{d:DT}(h:∀ C∈p_name,∀n,ConOk PP (RT ⟨n,d⟩) [] C)(n:Nat):ConOk PP (RT ⟨n,d⟩) [] C_name:=
 mk (n:=3) (by kernel_rfl) (by kernel_rfl) k_name e_name (by kernel_rfl) rfl lg0 name_0 (fun C hC=>h C hC n)
theorem k_fields:Chk C_fields p_fields t_fields [] false:=fun _=>by kernel_rfl
theorem e_fields:Ends C_fields p_fields t_fields [] false f_fields:=fun _ _=>by kernel_rfl
theorem c_fields{d:DT}(h:∀ C∈p_fields,∀n,ConOk PP (RT ⟨n,d⟩) [] C)(n:Nat):ConOk PP (RT ⟨n,d⟩) [] C_fields:=
 mk (n:=9) (by kernel_rfl) (by kernel_rfl) k_fields e_fields (by kernel_rfl) rfl lg0 (AllI_app fields_0 fields_6) (fun C hC=>h C hC n)
theorem k_headers:Chk C_headers p_headers t_headers [] false:=fun _=>by kernel_rfl
theorem e_headers:Ends C_headers p_headers t_headers [] false f_headers:=fun _ _=>by kernel_rfl
theorem c_headers{d:DT}(h:∀ C∈p_headers,∀n,ConOk PP (RT ⟨n,d⟩) [] C)(n:Nat):ConOk PP (RT ⟨n,d⟩) [] C_headers:=
 mk (n:=16) (by kernel_rfl) (by kernel_rfl) k_headers e_headers (by kernel_rfl) rfl lg0 (AllI_app headers_0 (AllI_app headers_6 headers_12)) (fun C hC=>h C hC n)
theorem k_Width:Chk C_Width p_Width t_Width [] false:=fun _=>by kernel_rfl
theorem e_Width:Ends C_Width p_Width t_Width [] false f_Width:=fun _ _=>by kernel_rfl
theorem c_Width{d:DT}(h:∀ C∈p_Width,∀n,ConOk PP (RT ⟨n,d⟩) [] C)(n:Nat):ConOk PP (RT ⟨n,d⟩) [] C_Width:=
 mk (n:=4) (by kernel_rfl) (by kernel_rfl) k_Width e_Width (by kernel_rfl) rfl lg0 Width_0 (fun C hC=>h C hC n)
theorem k_Kind:Chk C_Kind p_Kind t_Kind [] false:=fun _=>by kernel_rfl
theorem e_Kind:Ends C_Kind p_Kind t_Kind [] false f_Kind:=fun _ _=>by kernel_rfl
theorem c_Kind{d:DT}(h:∀ C∈p_Kind,∀n,ConOk PP (RT ⟨n,d⟩) [] C)(n:Nat):ConOk PP (RT ⟨n,d⟩) [] C_Kind:=
 mk (n:=4) (by kernel_rfl) (by kernel_rfl) k_Kind e_Kind (by kernel_rfl) rfl lg0 Kind_0 (fun C hC=>h C hC n)
theorem k_Call:Chk C_Call p_Call t_Call [] false:=fun _=>by kernel_rfl
theorem e_Call:Ends C_Call p_Call t_Call [] false f_Call:=fun _ _=>by kernel_rfl
theorem c_Call{d:DT}(h:∀ C∈p_Call,∀n,ConOk PP (RT ⟨n,d⟩) [] C)(n:Nat):ConOk PP (RT ⟨n,d⟩) [] C_Call:=
 mk (n:=9) (by kernel_rfl) (by kernel_rfl) k_Call e_Call (by kernel_rfl) rfl lg0 (AllI_app Call_0 Call_6) (fun C hC=>h C hC n)
theorem k_step:Chk C_step p_step t_step [] false:=fun _=>by kernel_rfl
theorem e_step:Ends C_step p_step t_step [] false f_step:=fun _ _=>by kernel_rfl
theorem c_step{d:DT}(h:∀ C∈p_step,∀n,ConOk PP (RT ⟨n,d⟩) [] C)(n:Nat):ConOk PP (RT ⟨n,d⟩) [] C_step:=
 mk (n:=213) (by kernel_rfl) (by kernel_rfl) k_step e_step (by kernel_rfl) rfl lg0 (AllI_app step_0 (AllI_app step_6 (AllI_app step_12 (AllI_app step_18 (AllI_app step_24 (AllI_app step_30 (AllI_app step_36 (AllI_app step_42 (AllI_app step_48 (AllI_app step_54 (AllI_app step_60 (AllI_app step_66 (AllI_app step_72 (AllI_app step_78 (AllI_app step_84 (AllI_app step_90 (AllI_app step_96 (AllI_app step_102 (AllI_app step_108 (AllI_app step_114 (AllI_app step_120 (AllI_app step_126 (AllI_app step_132 (AllI_app step_138 (AllI_app step_144 (AllI_app step_150 (AllI_app step_156 (AllI_app step_162 (AllI_app step_168 (AllI_app step_174 (AllI_app step_180 (AllI_app step_186 (AllI_app step_192 (AllI_app step_198 (AllI_app step_204 step_210))))))))))))))))))))))))))))))))))) (fun C hC=>h C hC n)
theorem k_actions:Chk C_actions p_actions t_actions [] false:=fun _=>by kernel_rfl
theorem e_actions:Ends C_actions p_actions t_actions [] false f_actions:=fun _ _=>by kernel_rfl
theorem c_actions{d:DT}(h:∀ C∈p_actions,∀n,ConOk PP (RT ⟨n,d⟩) [] C)(n:Nat):ConOk PP (RT ⟨n,d⟩) [] C_actions:=
 mk (n:=17) (by kernel_rfl) (by kernel_rfl) k_actions e_actions (by kernel_rfl) rfl lg0 (AllI_app actions_0 (AllI_app actions_6 actions_12)) (fun C hC=>h C hC n)
theorem k_tables:Chk C_tables p_tables t_tables [] false:=fun _=>by kernel_rfl
theorem e_tables:Ends C_tables p_tables t_tables [] false f_tables:=fun _ _=>by kernel_rfl
theorem c_tables{d:DT}(h:∀ C∈p_tables,∀n,ConOk PP (RT ⟨n,d⟩) [] C)(n:Nat):ConOk PP (RT ⟨n,d⟩) [] C_tables:=
 mk (n:=46) (by kernel_rfl) (by kernel_rfl) k_tables e_tables (by kernel_rfl) rfl lg0 (AllI_app tables_0 (AllI_app tables_6 (AllI_app tables_12 (AllI_app tables_18 (AllI_app tables_24 (AllI_app tables_30 (AllI_app tables_36 tables_42))))))) (fun C hC=>h C hC n)
theorem k_test:Chk C_test p_test t_test [] false:=fun _=>by kernel_rfl
theorem e_test:Ends C_test p_test t_test [] false f_test:=fun _ _=>by kernel_rfl
theorem c_test{d:DT}(h:∀ C∈p_test,∀n,ConOk PP (RT ⟨n,d⟩) [] C)(n:Nat):ConOk PP (RT ⟨n,d⟩) [] C_test:=
 mk (n:=46) (by kernel_rfl) (by kernel_rfl) k_test e_test (by kernel_rfl) rfl lg0 (AllI_app test_0 (AllI_app test_6 (AllI_app test_12 (AllI_app test_18 (AllI_app test_24 (AllI_app test_30 (AllI_app test_36 test_42))))))) (fun C hC=>h C hC n)
theorem k_stage:Chk C_stage p_stage t_stage [] false:=fun _=>by kernel_rfl
theorem e_stage:Ends C_stage p_stage t_stage [] false f_stage:=fun _ _=>by kernel_rfl
theorem c_stage{d:DT}(h:∀ C∈p_stage,∀n,ConOk PP (RT ⟨n,d⟩) [] C)(n:Nat):ConOk PP (RT ⟨n,d⟩) [] C_stage:=
 mk (n:=12) (by kernel_rfl) (by kernel_rfl) k_stage e_stage (by kernel_rfl) rfl lg0 (AllI_app stage_0 stage_6) (fun C hC=>h C hC n)
theorem k_walkTT:Chk (C_walkTT.withR (.cus 0 [] [0] [])) (p_walkTT++[C_walkTT.withR (.cus 1 [] [0] [])]) t_walkTT [] false:=fun _=>by kernel_rfl
theorem e_walkTT:Ends (C_walkTT.withR (.cus 0 [] [0] [])) (p_walkTT++[C_walkTT.withR (.cus 1 [] [0] [])]) t_walkTT [] false f_walkTT:=fun _ _=>by kernel_rfl
theorem c_walkTT{d:DT}(h:∀ C∈p_walkTT,∀n,ConOk PP (RT ⟨n,d⟩) [] C)(n:Nat):ConOk PP (RT ⟨n,d⟩) [] C_walkTT:=
 rec_ok (P:=PP) (lg:=[]) (C:=C_walkTT) (f:=RTf) (s:=0) (d:=d) rfl rfl (fun n hr=>mk (n:=9) (by kernel_rfl) (by kernel_rfl) k_walkTT e_walkTT (by kernel_rfl) rfl lg0 (AllI_app walkTT_0 walkTT_6) (fun C hC=>(List.mem_append.1 hC).elim (fun hC=>h C hC n) fun hC=>by rw[List.mem_singleton.1 hC];exact hr)) n
theorem k_walkTF:Chk (C_walkTF.withR (.cus 0 [] [0] [])) (p_walkTF++[C_walkTF.withR (.cus 1 [] [0] [])]) t_walkTF [] false:=fun _=>by kernel_rfl
theorem e_walkTF:Ends (C_walkTF.withR (.cus 0 [] [0] [])) (p_walkTF++[C_walkTF.withR (.cus 1 [] [0] [])]) t_walkTF [] false f_walkTF:=fun _ _=>by kernel_rfl
theorem c_walkTF{d:DT}(h:∀ C∈p_walkTF,∀n,ConOk PP (RT ⟨n,d⟩) [] C)(n:Nat):ConOk PP (RT ⟨n,d⟩) [] C_walkTF:=
 rec_ok (P:=PP) (lg:=[]) (C:=C_walkTF) (f:=RTf) (s:=0) (d:=d) rfl rfl (fun n hr=>mk (n:=28) (by kernel_rfl) (by kernel_rfl) k_walkTF e_walkTF (by kernel_rfl) rfl lg0 (AllI_app walkTF_0 (AllI_app walkTF_6 (AllI_app walkTF_12 (AllI_app walkTF_18 walkTF_24)))) (fun C hC=>(List.mem_append.1 hC).elim (fun hC=>h C hC n) fun hC=>by rw[List.mem_singleton.1 hC];exact hr)) n
theorem k_tall:Chk C_tall p_tall t_tall [] false:=fun _=>by kernel_rfl
theorem e_tall:Ends C_tall p_tall t_tall [] false f_tall:=fun _ _=>by kernel_rfl
theorem c_tall{d:DT}(h:∀ C∈p_tall,∀n,ConOk PP (RT ⟨n,d⟩) [] C)(n:Nat):ConOk PP (RT ⟨n,d⟩) [] C_tall:=
 mk (n:=3) (by kernel_rfl) (by kernel_rfl) k_tall e_tall (by kernel_rfl) rfl lg0 tall_0 (fun C hC=>h C hC n)
theorem k_walkS:Chk (C_walkS.withR (.cus 0 [] [0] [])) (p_walkS++[C_walkS.withR (.cus 1 [] [0] [])]) t_walkS [] false:=fun _=>by kernel_rfl
theorem e_walkS:Ends (C_walkS.withR (.cus 0 [] [0] [])) (p_walkS++[C_walkS.withR (.cus 1 [] [0] [])]) t_walkS [] false f_walkS:=fun _ _=>by kernel_rfl
theorem c_walkS{d:DT}(h:∀ C∈p_walkS,∀n,ConOk PP (RT ⟨n,d⟩) [] C)(n:Nat):ConOk PP (RT ⟨n,d⟩) [] C_walkS:=
 rec_ok (P:=PP) (lg:=[]) (C:=C_walkS) (f:=RTf) (s:=0) (d:=d) rfl rfl (fun n hr=>mk (n:=9) (by kernel_rfl) (by kernel_rfl) k_walkS e_walkS (by kernel_rfl) rfl lg0 (AllI_app walkS_0 walkS_6) (fun C hC=>(List.mem_append.1 hC).elim (fun hC=>h C hC n) fun hC=>by rw[List.mem_singleton.1 hC];exact hr)) n
theorem k_walkS0:Chk (C_walkS0.withR (.cus 0 [] [0] [])) (p_walkS0++[C_walkS0.withR (.cus 1 [] [0] [])]) t_walkS0 [] false:=fun _=>by kernel_rfl
theorem e_walkS0:Ends (C_walkS0.withR (.cus 0 [] [0] [])) (p_walkS0++[C_walkS0.withR (.cus 1 [] [0] [])]) t_walkS0 [] false f_walkS0:=fun _ _=>by kernel_rfl
theorem c_walkS0{d:DT}(h:∀ C∈p_walkS0,∀n,ConOk PP (RT ⟨n,d⟩) [] C)(n:Nat):ConOk PP (RT ⟨n,d⟩) [] C_walkS0:=
 rec_ok (P:=PP) (lg:=[]) (C:=C_walkS0) (f:=RTf) (s:=0) (d:=d) rfl rfl (fun n hr=>mk (n:=9) (by kernel_rfl) (by kernel_rfl) k_walkS0 e_walkS0 (by kernel_rfl) rfl lg0 (AllI_app walkS0_0 walkS0_6) (fun C hC=>(List.mem_append.1 hC).elim (fun hC=>h C hC n) fun hC=>by rw[List.mem_singleton.1 hC];exact hr)) n
theorem k_rounds:Chk C_rounds p_rounds t_rounds [] false:=fun _=>by kernel_rfl
theorem e_rounds:Ends C_rounds p_rounds t_rounds [] false f_rounds:=fun _ _=>by kernel_rfl
theorem c_rounds{d:DT}(h:∀ C∈p_rounds,∀n,ConOk PP (RT ⟨n,d⟩) [] C)(n:Nat):ConOk PP (RT ⟨n,d⟩) [] C_rounds:=
 mk (n:=17) (by kernel_rfl) (by kernel_rfl) k_rounds e_rounds (by kernel_rfl) rfl lg0 (AllI_app rounds_0 (AllI_app rounds_6 rounds_12)) (fun C hC=>h C hC n)
theorem k_states:Chk C_states p_states t_states [] false:=fun _=>by kernel_rfl
theorem e_states:Ends C_states p_states t_states [] false f_states:=fun _ _=>by kernel_rfl
theorem c_states{d:DT}(h:∀ C∈p_states,∀n,ConOk PP (RT ⟨n,d⟩) [] C)(n:Nat):ConOk PP (RT ⟨n,d⟩) [] C_states:=
 mk (n:=69) (by kernel_rfl) (by kernel_rfl) k_states e_states (by kernel_rfl) rfl lg0 (AllI_app states_0 (AllI_app states_6 (AllI_app states_12 (AllI_app states_18 (AllI_app states_24 (AllI_app states_30 (AllI_app states_36 (AllI_app states_42 (AllI_app states_48 (AllI_app states_54 (AllI_app states_60 states_66))))))))))) (fun C hC=>h C hC n)
theorem k_Check:Chk C_Check p_Check t_Check [] true:=fun _=>by kernel_rfl
theorem e_Check:Ends C_Check p_Check t_Check [] true f_Check:=fun _ _=>by kernel_rfl
theorem c_Check{d:DT}(h:∀ C∈p_Check,∀n,ConOk PP (RT ⟨n,d⟩) [] C)(n:Nat):ConOk PP (RT ⟨n,d⟩) [] C_Check:=
 mk (n:=9) (by kernel_rfl) (by kernel_rfl) k_Check e_Check (by kernel_rfl) rfl lg0 (AllI_app Check_0 Check_6) (fun C hC=>h C hC n)
theorem k_Widths:Chk C_Widths p_Widths t_Widths [] false:=fun _=>by kernel_rfl
theorem e_Widths:Ends C_Widths p_Widths t_Widths [] false f_Widths:=fun _ _=>by kernel_rfl
theorem c_Widths{d:DT}(h:∀ C∈p_Widths,∀n,ConOk PP (RT ⟨n,d⟩) [] C)(n:Nat):ConOk PP (RT ⟨n,d⟩) [] C_Widths:=
 mk (n:=4) (by kernel_rfl) (by kernel_rfl) k_Widths e_Widths (by kernel_rfl) rfl lg0 Widths_0 (fun C hC=>h C hC n)
theorem cF_Widths{d:DT}(h:∀ C∈p_Widths,∀n,ConOk PP (RT ⟨n,d⟩) [] C)(n:Nat):ConOk PP (RT ⟨n,d⟩) [] (C_Widths.freeze Z_Widths):=con_freeze (c_Widths h n) lg0 (by kernel_rfl)
theorem k_kinds:Chk C_kinds p_kinds t_kinds [] false:=fun _=>by kernel_rfl
theorem e_kinds:Ends C_kinds p_kinds t_kinds [] false f_kinds:=fun _ _=>by kernel_rfl
theorem c_kinds{d:DT}(h:∀ C∈p_kinds,∀n,ConOk PP (RT ⟨n,d⟩) [] C)(n:Nat):ConOk PP (RT ⟨n,d⟩) [] C_kinds:=
 mk (n:=2) (by kernel_rfl) (by kernel_rfl) k_kinds e_kinds (by kernel_rfl) rfl lg0 kinds_0 (fun C hC=>h C hC n)
theorem cF_kinds{d:DT}(h:∀ C∈p_kinds,∀n,ConOk PP (RT ⟨n,d⟩) [] C)(n:Nat):ConOk PP (RT ⟨n,d⟩) [] (C_kinds.freeze Z_kinds):=con_freeze (c_kinds h n) lg0 (by kernel_rfl)
theorem k_of:Chk C_of p_of t_of [] false:=fun _=>by kernel_rfl
theorem e_of:Ends C_of p_of t_of [] false f_of:=fun _ _=>by kernel_rfl
theorem c_of{d:DT}(h:∀ C∈p_of,∀n,ConOk PP (RT ⟨n,d⟩) [] C)(n:Nat):ConOk PP (RT ⟨n,d⟩) [] C_of:=
 mk (n:=14) (by kernel_rfl) (by kernel_rfl) k_of e_of (by kernel_rfl) rfl lg0 (AllI_app of_0 (AllI_app of_6 of_12)) (fun C hC=>h C hC n)
theorem cF_of{d:DT}(h:∀ C∈p_of,∀n,ConOk PP (RT ⟨n,d⟩) [] C)(n:Nat):ConOk PP (RT ⟨n,d⟩) [] (C_of.freeze Z_of):=con_freeze (c_of h n) lg0 (by kernel_rfl)
theorem cP_of{d d0:DT}(hd:d 51=pick PP (RT ⟨0,d0⟩) [] (C_of.freeze Z_of))(hN:∀ q,50<=q->q<51->d0 q=d q)(h:∀ C∈p_of,∀n,ConOk PP (RT ⟨n,d0⟩) [] C)(n:Nat):ConOk PP (RT ⟨n,d⟩) [] C_ofP:=fn_ok (N:=⟨0,d0⟩) (N':=⟨n,d⟩) (cF_of h 0) rfl hN rfl rfl rfl rfl rfl hd
theorem k_ones:Chk C_ones p_ones t_ones [] false:=fun _=>by kernel_rfl
theorem e_ones:Ends C_ones p_ones t_ones [] false f_ones:=fun _ _=>by kernel_rfl
theorem c_ones{d:DT}(h:∀ C∈p_ones,∀n,ConOk PP (RT ⟨n,d⟩) [] C)(n:Nat):ConOk PP (RT ⟨n,d⟩) [] C_ones:=
 mk (n:=2) (by kernel_rfl) (by kernel_rfl) k_ones e_ones (by kernel_rfl) rfl lg0 ones_0 (fun C hC=>h C hC n)
theorem k_may1:Chk C_may1 p_may1 t_may1 [] false:=fun _=>by kernel_rfl
theorem e_may1:Ends C_may1 p_may1 t_may1 [] false f_may1:=fun _ _=>by kernel_rfl
theorem c_may1{d:DT}(h:∀ C∈p_may1,∀n,ConOk PP (RT ⟨n,d⟩) [] C)(n:Nat):ConOk PP (RT ⟨n,d⟩) [] C_may1:=
 mk (n:=8) (by kernel_rfl) (by kernel_rfl) k_may1 e_may1 (by kernel_rfl) rfl lg0 (AllI_app may1_0 may1_6) (fun C hC=>h C hC n)
theorem k_may2:Chk C_may2 p_may2 t_may2 [] false:=fun _=>by kernel_rfl
theorem e_may2:Ends C_may2 p_may2 t_may2 [] false f_may2:=fun _ _=>by kernel_rfl
theorem c_may2{d:DT}(h:∀ C∈p_may2,∀n,ConOk PP (RT ⟨n,d⟩) [] C)(n:Nat):ConOk PP (RT ⟨n,d⟩) [] C_may2:=
 mk (n:=5) (by kernel_rfl) (by kernel_rfl) k_may2 e_may2 (by kernel_rfl) rfl lg0 may2_0 (fun C hC=>h C hC n)
theorem k_may3:Chk C_may3 p_may3 t_may3 [] false:=fun _=>by kernel_rfl
theorem e_may3:Ends C_may3 p_may3 t_may3 [] false f_may3:=fun _ _=>by kernel_rfl
theorem c_may3{d:DT}(h:∀ C∈p_may3,∀n,ConOk PP (RT ⟨n,d⟩) [] C)(n:Nat):ConOk PP (RT ⟨n,d⟩) [] C_may3:=
 mk (n:=4) (by kernel_rfl) (by kernel_rfl) k_may3 e_may3 (by kernel_rfl) rfl lg0 may3_0 (fun C hC=>h C hC n)
theorem k_may4:Chk C_may4 p_may4 t_may4 [] false:=fun _=>by kernel_rfl
theorem e_may4:Ends C_may4 p_may4 t_may4 [] false f_may4:=fun _ _=>by kernel_rfl
theorem c_may4{d:DT}(h:∀ C∈p_may4,∀n,ConOk PP (RT ⟨n,d⟩) [] C)(n:Nat):ConOk PP (RT ⟨n,d⟩) [] C_may4:=
 mk (n:=6) (by kernel_rfl) (by kernel_rfl) k_may4 e_may4 (by kernel_rfl) rfl lg0 may4_0 (fun C hC=>h C hC n)
theorem k_hits1:Chk C_hits1 p_hits1 t_hits1 [] false:=fun _=>by kernel_rfl
theorem e_hits1:Ends C_hits1 p_hits1 t_hits1 [] false f_hits1:=fun _ _=>by kernel_rfl
theorem c_hits1{d:DT}(h:∀ C∈p_hits1,∀n,ConOk PP (RT ⟨n,d⟩) [] C)(n:Nat):ConOk PP (RT ⟨n,d⟩) [] C_hits1:=
 mk (n:=3) (by kernel_rfl) (by kernel_rfl) k_hits1 e_hits1 (by kernel_rfl) rfl lg0 hits1_0 (fun C hC=>h C hC n)
theorem k_hits2:Chk C_hits2 p_hits2 t_hits2 [] false:=fun _=>by kernel_rfl
theorem e_hits2:Ends C_hits2 p_hits2 t_hits2 [] false f_hits2:=fun _ _=>by kernel_rfl
theorem c_hits2{d:DT}(h:∀ C∈p_hits2,∀n,ConOk PP (RT ⟨n,d⟩) [] C)(n:Nat):ConOk PP (RT ⟨n,d⟩) [] C_hits2:=
 mk (n:=2) (by kernel_rfl) (by kernel_rfl) k_hits2 e_hits2 (by kernel_rfl) rfl lg0 hits2_0 (fun C hC=>h C hC n)
theorem k_hits3:Chk C_hits3 p_hits3 t_hits3 [] false:=fun _=>by kernel_rfl
theorem e_hits3:Ends C_hits3 p_hits3 t_hits3 [] false f_hits3:=fun _ _=>by kernel_rfl
theorem c_hits3{d:DT}(h:∀ C∈p_hits3,∀n,ConOk PP (RT ⟨n,d⟩) [] C)(n:Nat):ConOk PP (RT ⟨n,d⟩) [] C_hits3:=
 mk (n:=2) (by kernel_rfl) (by kernel_rfl) k_hits3 e_hits3 (by kernel_rfl) rfl lg0 hits3_0 (fun C hC=>h C hC n)
theorem k_hits4:Chk C_hits4 p_hits4 t_hits4 [] false:=fun _=>by kernel_rfl
theorem e_hits4:Ends C_hits4 p_hits4 t_hits4 [] false f_hits4:=fun _ _=>by kernel_rfl
theorem c_hits4{d:DT}(h:∀ C∈p_hits4,∀n,ConOk PP (RT ⟨n,d⟩) [] C)(n:Nat):ConOk PP (RT ⟨n,d⟩) [] C_hits4:=
 mk (n:=10) (by kernel_rfl) (by kernel_rfl) k_hits4 e_hits4 (by kernel_rfl) rfl lg0 (AllI_app hits4_0 hits4_6) (fun C hC=>h C hC n)
theorem k_who:Chk C_who p_who t_who [] false:=fun _=>by kernel_rfl
theorem e_who:Ends C_who p_who t_who [] false f_who:=fun _ _=>by kernel_rfl
theorem c_who{d:DT}(h:∀ C∈p_who,∀n,ConOk PP (RT ⟨n,d⟩) [] C)(n:Nat):ConOk PP (RT ⟨n,d⟩) [] C_who:=
 mk (n:=46) (by kernel_rfl) (by kernel_rfl) k_who e_who (by kernel_rfl) rfl lg0 (AllI_app who_0 (AllI_app who_6 (AllI_app who_12 (AllI_app who_18 (AllI_app who_24 (AllI_app who_30 (AllI_app who_36 who_42))))))) (fun C hC=>h C hC n)
theorem cP_who{d d0:DT}(hd:d 52=pick PP (RT ⟨0,d0⟩) [] C_who)(hN:∀ q,50<=q->q<52->d0 q=d q)(h:∀ C∈p_who,∀n,ConOk PP (RT ⟨n,d0⟩) [] C)(n:Nat):ConOk PP (RT ⟨n,d⟩) [] C_whoP:=fn_ok (N:=⟨0,d0⟩) (N':=⟨n,d⟩) (c_who h 0) rfl hN rfl rfl rfl rfl rfl hd
theorem k_allK:Chk C_allK p_allK t_allK [] false:=fun _=>by kernel_rfl
theorem e_allK:Ends C_allK p_allK t_allK [] false f_allK:=fun _ _=>by kernel_rfl
theorem c_allK{d:DT}(h:∀ C∈p_allK,∀n,ConOk PP (RT ⟨n,d⟩) [] C)(n:Nat):ConOk PP (RT ⟨n,d⟩) [] C_allK:=
 mk (n:=14) (by kernel_rfl) (by kernel_rfl) k_allK e_allK (by kernel_rfl) rfl lg0 (AllI_app allK_0 (AllI_app allK_6 allK_12)) (fun C hC=>h C hC n)
theorem k_key:Chk C_key p_key t_key [] false:=fun _=>by kernel_rfl
theorem e_key:Ends C_key p_key t_key [] false f_key:=fun _ _=>by kernel_rfl
theorem c_key{d:DT}(h:∀ C∈p_key,∀n,ConOk PP (RT ⟨n,d⟩) [] C)(n:Nat):ConOk PP (RT ⟨n,d⟩) [] C_key:=
 mk (n:=3) (by kernel_rfl) (by kernel_rfl) k_key e_key (by kernel_rfl) rfl lg0 key_0 (fun C hC=>h C hC n)
theorem cP_key{d d0:DT}(hd:d 53=pick PP (RT ⟨0,d0⟩) [] C_key)(hN:∀ q,50<=q->q<53->d0 q=d q)(h:∀ C∈p_key,∀n,ConOk PP (RT ⟨n,d0⟩) [] C)(n:Nat):ConOk PP (RT ⟨n,d⟩) [] C_keyP:=fn_ok (N:=⟨0,d0⟩) (N':=⟨n,d⟩) (c_key h 0) rfl hN rfl rfl rfl rfl rfl hd
theorem k_allH:Chk C_allH p_allH t_allH [] false:=fun _=>by kernel_rfl
theorem e_allH:Ends C_allH p_allH t_allH [] false f_allH:=fun _ _=>by kernel_rfl
theorem c_allH{d:DT}(h:∀ C∈p_allH,∀n,ConOk PP (RT ⟨n,d⟩) [] C)(n:Nat):ConOk PP (RT ⟨n,d⟩) [] C_allH:=
 mk (n:=14) (by kernel_rfl) (by kernel_rfl) k_allH e_allH (by kernel_rfl) rfl lg0 (AllI_app allH_0 (AllI_app allH_6 allH_12)) (fun C hC=>h C hC n)
theorem k_hits:Chk C_hits p_hits t_hits [] false:=fun _=>by kernel_rfl
theorem e_hits:Ends C_hits p_hits t_hits [] false f_hits:=fun _ _=>by kernel_rfl
theorem c_hits{d:DT}(h:∀ C∈p_hits,∀n,ConOk PP (RT ⟨n,d⟩) [] C)(n:Nat):ConOk PP (RT ⟨n,d⟩) [] C_hits:=
 mk (n:=2) (by kernel_rfl) (by kernel_rfl) k_hits e_hits (by kernel_rfl) rfl lg0 hits_0 (fun C hC=>h C hC n)
theorem cP_hits{d d0:DT}(hd:d 54=pick PP (RT ⟨0,d0⟩) [] C_hits)(hN:∀ q,50<=q->q<54->d0 q=d q)(h:∀ C∈p_hits,∀n,ConOk PP (RT ⟨n,d0⟩) [] C)(n:Nat):ConOk PP (RT ⟨n,d⟩) [] C_hitsP:=fn_ok (N:=⟨0,d0⟩) (N':=⟨n,d⟩) (c_hits h 0) rfl hN rfl rfl rfl rfl rfl hd
theorem k_compI:Chk C_compI p_compI t_compI [] false:=fun _=>by kernel_rfl
theorem e_compI:Ends C_compI p_compI t_compI [] false f_compI:=fun _ _=>by kernel_rfl
theorem c_compI{d:DT}(h:∀ C∈p_compI,∀n,ConOk PP (RT ⟨n,d⟩) [] C)(n:Nat):ConOk PP (RT ⟨n,d⟩) [] C_compI:=
 mk (n:=3) (by kernel_rfl) (by kernel_rfl) k_compI e_compI (by kernel_rfl) rfl lg0 compI_0 (fun C hC=>h C hC n)
theorem k_compU:Chk C_compU p_compU t_compU [] false:=fun _=>by kernel_rfl
theorem e_compU:Ends C_compU p_compU t_compU [] false f_compU:=fun _ _=>by kernel_rfl
theorem c_compU{d:DT}(h:∀ C∈p_compU,∀n,ConOk PP (RT ⟨n,d⟩) [] C)(n:Nat):ConOk PP (RT ⟨n,d⟩) [] C_compU:=
 mk (n:=3) (by kernel_rfl) (by kernel_rfl) k_compU e_compU (by kernel_rfl) rfl lg0 compU_0 (fun C hC=>h C hC n)
theorem k_compB:Chk C_compB p_compB t_compB [] false:=fun _=>by kernel_rfl
theorem e_compB:Ends C_compB p_compB t_compB [] false f_compB:=fun _ _=>by kernel_rfl
theorem c_compB{d:DT}(h:∀ C∈p_compB,∀n,ConOk PP (RT ⟨n,d⟩) [] C)(n:Nat):ConOk PP (RT ⟨n,d⟩) [] C_compB:=
 mk (n:=3) (by kernel_rfl) (by kernel_rfl) k_compB e_compB (by kernel_rfl) rfl lg0 compB_0 (fun C hC=>h C hC n)
theorem k_compM:Chk C_compM p_compM t_compM [] false:=fun _=>by kernel_rfl
theorem e_compM:Ends C_compM p_compM t_compM [] false f_compM:=fun _ _=>by kernel_rfl
theorem c_compM{d:DT}(h:∀ C∈p_compM,∀n,ConOk PP (RT ⟨n,d⟩) [] C)(n:Nat):ConOk PP (RT ⟨n,d⟩) [] C_compM:=
 mk (n:=4) (by kernel_rfl) (by kernel_rfl) k_compM e_compM (by kernel_rfl) rfl lg0 compM_0 (fun C hC=>h C hC n)
theorem k_compL:Chk C_compL p_compL t_compL [] false:=fun _=>by kernel_rfl
theorem e_compL:Ends C_compL p_compL t_compL [] false f_compL:=fun _ _=>by kernel_rfl
theorem c_compL{d:DT}(h:∀ C∈p_compL,∀n,ConOk PP (RT ⟨n,d⟩) [] C)(n:Nat):ConOk PP (RT ⟨n,d⟩) [] C_compL:=
 mk (n:=8) (by kernel_rfl) (by kernel_rfl) k_compL e_compL (by kernel_rfl) rfl lg0 (AllI_app compL_0 compL_6) (fun C hC=>h C hC n)
theorem k_order:Chk C_order p_order t_order [] false:=fun _=>by kernel_rfl
theorem e_order:Ends C_order p_order t_order [] false f_order:=fun _ _=>by kernel_rfl
theorem c_order{d:DT}(h:∀ C∈p_order,∀n,ConOk PP (RT ⟨n,d⟩) [] C)(n:Nat):ConOk PP (RT ⟨n,d⟩) [] C_order:=
 mk (n:=3) (by kernel_rfl) (by kernel_rfl) k_order e_order (by kernel_rfl) rfl lg0 order_0 (fun C hC=>h C hC n)
theorem k_hit:Chk C_hit p_hit t_hit [] false:=fun _=>by kernel_rfl
theorem e_hit:Ends C_hit p_hit t_hit [] false f_hit:=fun _ _=>by kernel_rfl
theorem c_hit{d:DT}(h:∀ C∈p_hit,∀n,ConOk PP (RT ⟨n,d⟩) [] C)(n:Nat):ConOk PP (RT ⟨n,d⟩) [] C_hit:=
 mk (n:=9) (by kernel_rfl) (by kernel_rfl) k_hit e_hit (by kernel_rfl) rfl lg0 (AllI_app hit_0 hit_6) (fun C hC=>h C hC n)
theorem k_best:Chk C_best p_best t_best [] false:=fun _=>by kernel_rfl
theorem e_best:Ends C_best p_best t_best [] false f_best:=fun _ _=>by kernel_rfl
theorem c_best{d:DT}(h:∀ C∈p_best,∀n,ConOk PP (RT ⟨n,d⟩) [] C)(n:Nat):ConOk PP (RT ⟨n,d⟩) [] C_best:=
 mk (n:=17) (by kernel_rfl) (by kernel_rfl) k_best e_best (by kernel_rfl) rfl lg0 (AllI_app best_0 (AllI_app best_6 best_12)) (fun C hC=>h C hC n)
theorem k_law:Chk C_law p_law t_law lg false:=fun _=>by kernel_rfl
theorem e_law:Ends C_law p_law t_law lg false f_law:=fun _ _=>by kernel_rfl
theorem c_law{d:DT}(h:∀ C∈p_law,∀n,ConOk PP (RT ⟨n,d⟩) lg C)(n:Nat):ConOk PP (RT ⟨n,d⟩) lg C_law:=
 mk (n:=26) (by kernel_rfl) (by kernel_rfl) k_law e_law (by kernel_rfl) lg_nl lg_tree (AllI_app law_0 (AllI_app law_6 (AllI_app law_12 (AllI_app law_18 law_24)))) (fun C hC=>h C hC n)
end Go.Eng.Cons
