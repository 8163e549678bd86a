/- MatchBest. -/
import Derived.Test.YtojegdhjkcllfaaGreatDoorProg
import Derived.Test.YtojegdhjkcllfaaGreatDoorShelf
import Derived.Test.YtojegdhjkcllfaaGreatDoorEngD
import Derived.Tactics
import Derived.Tactics2
import Derived.StillTactics
import Derived.LoopTactic
import Derived.WalkKit
import Derived.KernelRfl
import Derived.Laws.Slices
import Derived.WalkSpells
namespace Go.Eng.Cons
open Go.RowKit Go.Eng Go.Proofs
set_option linter.all false
set_option maxRecDepth 100000
noncomputable abbrev PP:=Go.Proofs.Tryz.prog
theorem contains_calls(s p:ByteArray)(w:World)(hs:s.size<=1048672)(hp:p.size<=1048672):
 Calls PP 197 #[.string s,.string p] w fun e w'=>e=.returned (.bool (contL s.data.toList p.data.toList))∧w'=w:=by
 rw[<-contB_eq]
 go_enter Tryz.func197,Tryz.ntmps197
 go_wp2
 go_loop [5] (fun i=>∃ k:Nat,k<=s.size+1∧i=.int .i64 k∧contB s p k=false) (fun i=>s.size+1 - (intOf i).toNat)
 case atStart=>exact⟨0,Nat.zero_le _,rfl,rfl⟩
 case round=>
  obtain⟨k,hk,rfl,hno⟩:=hrel
  go_wp2
  ·rename_i he _
   go_ret
   exact⟨by rw[contB_yes (by omega) he];rfl,rfl⟩
  ·rename_i he
   exact⟨⟨k+1,by omega,by simp,contB_step hno he⟩,by simp[intOf];omega⟩
  ·go_ret
   exact⟨by rw[contB_no hno (by omega)];rfl,rfl⟩
theorem names : PP.funcs.toList.all (fun f => !(f.name == "runtime.NumGoroutine")) = true := by kernel_rfl
theorem mixed:PP.follows .mixedOrders=true:=by kernel_rfl
noncomputable def FF:FTab:=FFof PP
theorem FF_ok:FTabOk PP FF:=FFof_ok names
theorem b197:(match FF 197 with |some _=>true |none=>false)=true:=by kernel_rfl
theorem bIdx:(match FF 137 with |some _=>true |none=>false)=true:=by kernel_rfl
theorem b41:(match FF 41 with |some _=>true |none=>false)=true:=by kernel_rfl
theorem ent{g:Nat}(h:(match FF g with |some _=>true |none=>false)=true):Enters PP g:=by
 cases hf:FF g with
 |none=>rw[hf]at h;cases h
 |some fi=>exact(FF_ok g fi hf).1
noncomputable def S0:Oracle:=sCont 197 (sIdx 137 0 (sJoin 41 noS))
theorem S0_ok [Far]:CallOk PP S0:=
 sCont_ok (sIdx_ok (sJoin_ok (noS_ok PP) (ent b41) (fun bk o c xs sep w h1 h2 h3 h4 h5=>Tryz.strings_Join bk o c xs sep w h1 h2 h3 h4 h5)) (ent bIdx) (fun s p m w h1 h2=>Tryz.stringslite_Index s p m w h1 h2)) (ent b197) (fun s p w h1 h2=>contains_calls s p w (by omega) (by omega))
noncomputable def TT [Far]:TO PP:=TOof PP
noncomputable def ev [Far](S:Oracle):Oracle:=evCall TT FF (evDraw TT) S 100000 40
theorem ev_ok [Far]{S:Oracle}(hS:CallOk PP S):CallOk PP (ev S):=evCall_ok TT FF_ok (fun C Y hC hY=>evDraw_ok mixed TT hC hY) hS 100000 40
def tab64:List Int:=[0,1,56,2,57,49,28,3,61,58,42,50,38,29,17,4,62,47,59,36,45,43,51,22,53,39,33,30,24,18,12,5,63,55,48,27,60,41,37,16,46,35,44,21,52,32,23,11,54,26,40,15,34,20,31,10,25,14,19,9,13,8,7,6]
def lg:List (Nat×List IV):=[(7,tab64.map fun n=>IV.sc (.int .u8 n)),(0,[.anyi .i64])]
end Go.Eng.Cons
