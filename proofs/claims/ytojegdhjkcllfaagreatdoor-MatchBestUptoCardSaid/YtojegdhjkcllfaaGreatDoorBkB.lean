/- MatchBest. -/
import Derived.Test.YtojegdhjkcllfaaGreatDoorBkA
import Derived.Test.YtojegdhjkcllfaaGreatDoorEngD
import Derived.KernelRfl
namespace Go.Eng.Cons
open Go.RowKit Go.Eng
set_option linter.all false
set_option maxRecDepth 100000
noncomputable def EE:Rig PP:=⟨FF,FF_ok,fun F=>@TOof F PP,noS,fun F=>@noS_ok F PP,mixed,100000,12⟩
def RTf:Nat->List Ty:=fun k=>([[.str 1048576,.rows 1],[.str 1048576,.int .i64],[.str 1048576,.str 1048576,.str 1048576,.str 1048576,.rows 8,.str 1048576],[.str 1048576,.rows 1,.rows 9],[.str 1048576,.rows 10,.rows 11,.int .i64,.str 1048576,.rows 7,.boo],[.int .i64,.str 1048576,.int .i64,.str 1048576,.str 1048576,.int .u64,.int .u64,.str 1048576,.str 1048576,.int .u64,.int .u64,.rows 5,.rows 5],[.rows 12,.int .i64,.str 1048576,.rows 7],[.int .u64,.int .u64],[.int .u64,.int .u64,.int .u64,.int .u64,.str 1048576],[.int .i64,.str 1048576,.str 1048576,.int .i64,.str 1048576,.str 1048576,.int .u64,.int .u64,.str 1048576,.str 1048576,.int .u64,.int .u64],[.str 1048576,.str 1048576,.int .i64],[.str 1048576],[.int .u64,.int .u64,.int .u64,.int .u64,.int .i64]]:List (List Ty)).getD k []
def RT(N:PN):RTab:=RTN RTf N
def RUs:List Rule:=RUB RTf ⟨5,2,8,10,4,11,7⟩ [0,1,2,3,4,5] 12 6
abbrev LgT:=List (Nat×List IV)
noncomputable def fiOf(C:Con):FI:=(FF C.g).getD default
noncomputable def Xof(C:Con)(l:LgT)(cm:Bool)(N:PN):Ctx:=C.X (RT N) l (fiOf C) cm
noncomputable def frs(C:Con):List Fr:=[⟨[],(fiOf C).body,C.s0,C.c,none⟩]
noncomputable def atOf(C:Con)(cs:List Con)(t:Tree)(l:LgT)(cm:Bool)(N:PN)(p:List Nat):Option Obl:=t.at (P:=PP) (Xof C l cm N) cs RUs (frs C) C.K0 p
def Lf(C:Con)(cs:List Con)(t:Tree)(l:LgT)(cm:Bool)(i:Nat):Prop:=∀ (N:PN)(F:Far)(h:oH (P:=PP) (Xof C l cm N) F (atOf C cs t l cm N (t.paths.getD i []))),oB EE (Xof C l cm N) F (atOf C cs t l cm N (t.paths.getD i [])) h=true
def AllI(Q:Nat->Prop):Nat->Nat->Prop
 |_,0=>True
 |i,n+1=>Q i∧AllI Q (i+1) n
theorem AllI_app{Q:Nat->Prop}:∀ {n m i:Nat},AllI Q i n->AllI Q (i+n) m->AllI Q i (n+m)
 |0,m,i,_,h=>by rw[Nat.zero_add];exact h
 |n+1,m,i,h,h'=>by rw[Nat.add_right_comm];exact⟨h.1,AllI_app h.2 (by rw[Nat.add_assoc,Nat.add_comm 1 n];exact h')⟩
theorem AllI_ok{Q:Nat->Prop}:∀ {n i k:Nat},AllI Q i n->i<=k->k<i+n->Q k
 |0,i,k,_,h1,h2=>by omega
 |n+1,i,k,h,h1,h2=>by
  by_cases e:k=i
  ·rw[e];exact h.1
  ·exact AllI_ok h.2 (by omega) (by omega)
def Chk(C:Con)(cs:List Con)(t:Tree)(l:LgT)(cm:Bool):Prop:=∀ N:PN,t.chk (P:=PP) (Xof C l cm N) cs RUs (frs C) C.K0=true
def Ends(C:Con)(cs:List Con)(t:Tree)(l:LgT)(cm:Bool)(fits:List Fit):Prop:=∀ (N:PN)(F:Far),all2 (@endOk F PP (EE.T F) l C cm (fiOf C).results) (t.ends (P:=PP) (Xof C l cm N) cs RUs (frs C) C.K0) fits=true
theorem mk{C:Con}{cs:List Con}{t:Tree}{l:LgT}{cm:Bool}{fits:List Fit}{n:Nat}(h1:(FF C.g).isSome=true)(h2:C.K0.wf=true)(h3:Chk C cs t l cm)(h4:Ends C cs t l cm fits)(h5:Nat.beq t.paths.length n=true)
 (hl:nlG l=true) (hl2:l.all (fun e=>e.2.all (tree 30))=true) (h6:AllI (Lf C cs t l cm) 0 n) {N:PN} (hcs:∀ C∈cs,ConOk PP (RT N) l C):ConOk PP (RT N) l C:=
 con_ok (C:=C) EE (someD h1) hcs RUB_ok hl hl2 h2 (chk_ok EE (Xof C l cm N) cs RUs t (frs C) C.K0 (h3 N) (by
  intro p hp
  obtain⟨i,hi,rfl⟩:=List.getElem_of_mem hp
  have:=AllI_ok h6 (Nat.zero_le i) (by rw[<-Nat.eq_of_beq_eq_true h5];omega) N
  have e:t.paths.getD i []=t.paths[i]:=by simp[List.getD,hi]
  rw[e]at this
  exact this)) (h4 N)
abbrev x0:IV:=.un 0
abbrev x1:IV:=.un 1
abbrev x2:IV:=.un 2
abbrev x3:IV:=.un 3
abbrev x4:IV:=.un 4
abbrev x5:IV:=.un 5
abbrev x6:IV:=.un 6
abbrev x7:IV:=.un 7
abbrev x8:IV:=.un 8
abbrev x9:IV:=.un 9
abbrev x10:IV:=.un 10
abbrev x11:IV:=.un 11
abbrev x12:IV:=.un 12
abbrev x13:IV:=.un 13
abbrev x14:IV:=.un 14
abbrev x15:IV:=.un 15
abbrev x16:IV:=.un 16
abbrev x17:IV:=.un 17
abbrev x18:IV:=.un 18
abbrev x19:IV:=.un 19
abbrev x20:IV:=.un 20
abbrev x21:IV:=.un 21
abbrev x22:IV:=.un 22
abbrev x23:IV:=.un 23
abbrev x24:IV:=.un 24
abbrev x25:IV:=.un 25
abbrev x26:IV:=.un 26
abbrev x27:IV:=.un 27
abbrev x28:IV:=.un 28
abbrev x29:IV:=.un 29
abbrev x30:IV:=.un 30
abbrev x31:IV:=.un 31
abbrev v0:IV:=.fu 0
abbrev v1:IV:=.fu 1
abbrev v2:IV:=.fu 2
abbrev v3:IV:=.fu 3
abbrev v4:IV:=.fu 4
abbrev v5:IV:=.fu 5
abbrev v6:IV:=.fu 6
abbrev v7:IV:=.fu 7
abbrev v8:IV:=.fu 8
abbrev v9:IV:=.fu 9
abbrev v10:IV:=.fu 10
abbrev v11:IV:=.fu 11
abbrev v12:IV:=.fu 12
abbrev y0:IV:=nn 0
abbrev y1:IV:=nn 1
abbrev y2:IV:=nn 2
abbrev y3:IV:=nn 3
abbrev y4:IV:=nn 4
abbrev y5:IV:=nn 5
abbrev y6:IV:=nn 6
abbrev y7:IV:=nn 7
abbrev y8:IV:=nn 8
abbrev y9:IV:=nn 9
abbrev y10:IV:=nn 10
abbrev y11:IV:=nn 11
abbrev y12:IV:=nn 12
abbrev y13:IV:=nn 13
abbrev y14:IV:=nn 14
abbrev y15:IV:=nn 15
abbrev y16:IV:=nn 16
abbrev y17:IV:=nn 17
abbrev y18:IV:=nn 18
abbrev y19:IV:=nn 19
abbrev y20:IV:=nn 20
abbrev y21:IV:=nn 21
abbrev y22:IV:=nn 22
abbrev y23:IV:=nn 23
abbrev y24:IV:=nn 24
abbrev y25:IV:=nn 25
abbrev y26:IV:=nn 26
abbrev y27:IV:=nn 27
abbrev y28:IV:=nn 28
abbrev y29:IV:=nn 29
abbrev y30:IV:=nn 30
abbrev y31:IV:=nn 31
abbrev y32:IV:=nn 32
abbrev y33:IV:=nn 33
abbrev y34:IV:=nn 34
abbrev y35:IV:=nn 35
abbrev y36:IV:=nn 36
abbrev y37:IV:=nn 37
abbrev y38:IV:=nn 38
abbrev y39:IV:=nn 39
abbrev y40:IV:=nn 40
abbrev y41:IV:=nn 41
abbrev y42:IV:=nn 42
abbrev y43:IV:=nn 43
abbrev y44:IV:=nn 44
abbrev y45:IV:=nn 45
abbrev y46:IV:=nn 46
abbrev y47:IV:=nn 47
abbrev y48:IV:=nn 48
abbrev y49:IV:=nn 49
abbrev y50:IV:=nn 50
abbrev y51:IV:=nn 51
abbrev y52:IV:=nn 52
abbrev y53:IV:=nn 53
abbrev y54:IV:=nn 54
abbrev y55:IV:=nn 55
abbrev y56:IV:=nn 56
abbrev y57:IV:=nn 57
abbrev y58:IV:=nn 58
abbrev y59:IV:=nn 59
abbrev y60:IV:=nn 60
abbrev y61:IV:=nn 61
abbrev y62:IV:=nn 62
abbrev y63:IV:=nn 63
abbrev y64:IV:=nn 64
abbrev y65:IV:=nn 65
abbrev y66:IV:=nn 66
abbrev y67:IV:=nn 67
abbrev y68:IV:=nn 68
abbrev y69:IV:=nn 69
abbrev y70:IV:=nn 70
abbrev y71:IV:=nn 71
abbrev y72:IV:=nn 72
abbrev y73:IV:=nn 73
abbrev y74:IV:=nn 74
abbrev y75:IV:=nn 75
abbrev y76:IV:=nn 76
abbrev y77:IV:=nn 77
abbrev y78:IV:=nn 78
abbrev y79:IV:=nn 79
abbrev y80:IV:=nn 80
abbrev y81:IV:=nn 81
abbrev y82:IV:=nn 82
abbrev y83:IV:=nn 83
abbrev y84:IV:=nn 84
abbrev y85:IV:=nn 85
abbrev y86:IV:=nn 86
abbrev y87:IV:=nn 87
abbrev y88:IV:=nn 88
abbrev y89:IV:=nn 89
abbrev y90:IV:=nn 90
abbrev y91:IV:=nn 91
abbrev y92:IV:=nn 92
abbrev y93:IV:=nn 93
abbrev y94:IV:=nn 94
abbrev y95:IV:=nn 95
abbrev y96:IV:=nn 96
abbrev y97:IV:=nn 97
abbrev y98:IV:=nn 98
abbrev y99:IV:=nn 99
abbrev y100:IV:=nn 100
abbrev y101:IV:=nn 101
abbrev y102:IV:=nn 102
abbrev y103:IV:=nn 103
abbrev y104:IV:=nn 104
abbrev y105:IV:=nn 105
abbrev y106:IV:=nn 106
abbrev y107:IV:=nn 107
abbrev y108:IV:=nn 108
abbrev y109:IV:=nn 109
abbrev y110:IV:=nn 110
abbrev y111:IV:=nn 111
abbrev y112:IV:=nn 112
abbrev y113:IV:=nn 113
abbrev y114:IV:=nn 114
abbrev y115:IV:=nn 115
abbrev y116:IV:=nn 116
abbrev y117:IV:=nn 117
abbrev y118:IV:=nn 118
abbrev y119:IV:=nn 119
abbrev y120:IV:=nn 120
abbrev y121:IV:=nn 121
abbrev y122:IV:=nn 122
abbrev y123:IV:=nn 123
abbrev y124:IV:=nn 124
abbrev y125:IV:=nn 125
abbrev y126:IV:=nn 126
abbrev y127:IV:=nn 127
abbrev y128:IV:=nn 128
def C_ixH:Con:=⟨198,[.str 1048576],[0],0,[v0,(.fn (.func 181) [] [(.ptr 0 0)])],[(0,.row [x0])],1,[],[⟨[.int .i64],[],0,[.idx x1 0],(.ret x1),[(0,.row [x0])],1⟩]⟩
def t_ixH:Tree:=(.one (.len 22 0)
 (.loop ⟨[1,0,1,0],⟨[(0,v0),(1,(.fn (.func 181) [] [(.ptr 0 0)])),(4,y0),(7,x1),(8,x2)],[(0,.row [x0])],1⟩,[(2,y0)],[(2,.nat)],[],[],2,x1,[],[],[],1,[]⟩
 (.two (.cmp .lss 3 x2 x1)
 (.one (.row 22 0 x2)
 (.two (.scmp .eql 9 x3 x0)
 (.brk .ret ⟨[(4,x2)],[(0,.row [x0])],1⟩ []
 (.leaf .ret ⟨[(4,x2)],[(0,.row [x0])],1⟩))
 (.one (.inc 3 x2 x1)
 (.again [(2,x4)] [] [] []))))
 (.brk (.exit 0) ⟨[(4,y0)],[(0,.row [x0])],1⟩ []
 (.leaf .ret ⟨[(4,(nn (-1)))],[(0,.row [x0])],1⟩)))))
def f_ixH:List Fit:=[⟨0,[x2],[],[]⟩,⟨0,[(nn (-1))],[],[]⟩]
def C_ixHP:Con:=C_ixH
def p_ixH:List Con:=[]
def L_ixH:Nat->Prop:=Lf C_ixH p_ixH t_ixH [] false
def C_ixA:Con:=⟨155,[.str 1048576],[3],0,[v0,(.fn (.func 128) [] [(.ptr 0 0)])],[(0,.row [x0])],1,[],[⟨[.int .i64],[],0,[.idx x1 0],(.ret x1),[(0,.row [x0])],1⟩]⟩
def t_ixA:Tree:=(.one (.len 25 0)
 (.loop ⟨[1,0,1,0],⟨[(0,v0),(1,(.fn (.func 128) [] [(.ptr 0 0)])),(4,y0),(7,x1),(8,x2)],[(0,.row [x0])],1⟩,[(2,y0)],[(2,.nat)],[],[],2,x1,[],[],[],1,[]⟩
 (.two (.cmp .lss 3 x2 x1)
 (.one (.row 25 0 x2)
 (.two (.scmp .eql 9 x3 x0)
 (.brk .ret ⟨[(4,x2)],[(0,.row [x0])],1⟩ []
 (.leaf .ret ⟨[(4,x2)],[(0,.row [x0])],1⟩))
 (.one (.inc 3 x2 x1)
 (.again [(2,x4)] [] [] []))))
 (.brk (.exit 0) ⟨[(4,y0)],[(0,.row [x0])],1⟩ []
 (.leaf .ret ⟨[(4,(nn (-1)))],[(0,.row [x0])],1⟩)))))
def f_ixA:List Fit:=[⟨0,[x2],[],[]⟩,⟨0,[(nn (-1))],[],[]⟩]
def C_ixAP:Con:=C_ixA
def p_ixA:List Con:=[C_ixHP]
def L_ixA:Nat->Prop:=Lf C_ixA p_ixA t_ixA [] false
def C_ixT:Con:=⟨123,[.str 1048576],[4],0,[v0,(.fn (.func 68) [] [(.ptr 0 0)])],[(0,.row [x0])],1,[],[⟨[.int .i64],[],0,[.idx x1 0],(.ret x1),[(0,.row [x0])],1⟩]⟩
def t_ixT:Tree:=(.one (.len 26 0)
 (.rule 36 [] [0] []
 (.loop ⟨[1,0,1,0],⟨[(0,v0),(1,(.fn (.func 68) [] [(.ptr 0 0)])),(4,y0),(7,x1),(8,x2)],[(0,.row [x0])],1⟩,[(2,y0)],[(2,.nat)],[],[],2,x1,[],[],[],1,[]⟩
 (.two (.cmp .lss 3 x2 x1)
 (.one (.row 26 0 x2)
 (.two (.scmp .eql 9 x3 x0)
 (.brk .ret ⟨[(4,x2)],[(0,.row [x0])],1⟩ []
 (.leaf .ret ⟨[(4,x2)],[(0,.row [x0])],1⟩))
 (.one (.inc 3 x2 x1)
 (.again [(2,x7)] [] [] []))))
 (.brk (.exit 0) ⟨[(4,y0)],[(0,.row [x0])],1⟩ []
 (.leaf .ret ⟨[(4,(nn (-1)))],[(0,.row [x0])],1⟩))))
 .no))
def f_ixT:List Fit:=[⟨0,[x2],[],[]⟩,⟨0,[(nn (-1))],[],[]⟩]
def C_ixTP:Con:=C_ixT
def p_ixT:List Con:=[C_ixHP,C_ixAP]
def L_ixT:Nat->Prop:=Lf C_ixT p_ixT t_ixT [] false
def C_ixF:Con:=⟨205,[.str 1048576],[1],0,[v0,(.fn (.func 200) [] [(.ptr 0 0)])],[(0,.row [x0])],1,[],[⟨[.int .i64],[],0,[.idx x1 0],(.ret x1),[(0,.row [x0])],1⟩]⟩
def t_ixF:Tree:=(.one (.len 23 0)
 (.loop ⟨[1,0,1,0],⟨[(0,v0),(1,(.fn (.func 200) [] [(.ptr 0 0)])),(4,y0),(7,x1),(8,x2)],[(0,.row [x0])],1⟩,[(2,y0)],[(2,.nat)],[],[],2,x1,[],[],[],1,[]⟩
 (.two (.cmp .lss 3 x2 x1)
 (.one (.row 23 0 x2)
 (.two (.scmp .eql 9 x3 x0)
 (.brk .ret ⟨[(4,x2)],[(0,.row [x0])],1⟩ []
 (.leaf .ret ⟨[(4,x2)],[(0,.row [x0])],1⟩))
 (.one (.inc 3 x2 x1)
 (.again [(2,x5)] [] [] []))))
 (.brk (.exit 0) ⟨[(4,y0)],[(0,.row [x0])],1⟩ []
 (.leaf .ret ⟨[(4,(nn (-1)))],[(0,.row [x0])],1⟩)))))
def f_ixF:List Fit:=[⟨0,[x2],[],[]⟩,⟨0,[(nn (-1))],[],[]⟩]
def C_ixFP:Con:=C_ixF
def p_ixF:List Con:=[C_ixHP,C_ixAP,C_ixTP]
def L_ixF:Nat->Prop:=Lf C_ixF p_ixF t_ixF [] false
def C_ixK:Con:=⟨72,[.int .i64],[10],0,[v0,(.fn (.func 32) [] [(.ptr 0 0)])],[(0,.row [x0])],1,[],[⟨[.int .i64],[],0,[.idx x1 0,.cus 120 [x0,x1] [0] []],(.ret x1),[(0,.row [x0])],1⟩]⟩
def t_ixK:Tree:=(.one (.len 34 0)
 (.rule 63 [x0] [0] []
 (.loop ⟨[1,0,1,0],⟨[(0,v0),(1,(.fn (.func 32) [] [(.ptr 0 0)])),(4,y0),(7,x1),(8,x2)],[(0,.row [x0])],1⟩,[(2,y0)],[(2,.nat)],[],[],2,x1,[],[],[.cus 119 [x0,x2] [0] []],1,[]⟩
 (.two (.cmp .lss 3 x2 x1)
 (.one (.row 34 0 x2)
 (.two (.cmp .eql 3 x5 x0)
 (.brk .ret ⟨[(4,x2)],[(0,.row [x0])],1⟩ []
 (.rule 66 [x0,x2,x3,x4,x5] [0] []
 (.leaf .ret ⟨[(4,x2)],[(0,.row [x0])],1⟩)
 .no))
 (.one (.inc 3 x2 x1)
 (.rule 64 [x0,x2,x3,x4,x5,x6] [0] []
 (.again [(2,x6)] [] [] [])
 .no))))
 (.brk (.exit 0) ⟨[(4,y0)],[(0,.row [x0])],1⟩ []
 (.rule 65 [x0,x2,x1] [0] []
 (.leaf .ret ⟨[(4,(nn (-1)))],[(0,.row [x0])],1⟩)
 .no))))
 .no))
def f_ixK:List Fit:=[⟨0,[x2],[],[]⟩,⟨0,[(nn (-1))],[],[]⟩]
def C_ixKP:Con:=C_ixK
def p_ixK:List Con:=[C_ixHP,C_ixAP,C_ixTP,C_ixFP]
def L_ixK:Nat->Prop:=Lf C_ixK p_ixK t_ixK [] false
def C_ixS:Con:=⟨43,[.str 1048576],[11],0,[v0,x0],[],0,[],[⟨[.int .i64],[],0,[.idx x1 0],(.ret x1),[],0⟩]⟩
def t_ixS:Tree:=(.one (.len 35 0)
 (.loop ⟨[1,0,1,0],⟨[(0,v0),(1,x0),(4,y0),(7,x1),(8,x2)],[],0⟩,[(2,y0)],[(2,.nat)],[],[],2,x1,[],[],[],0,[]⟩
 (.two (.cmp .lss 3 x2 x1)
 (.one (.row 35 0 x2)
 (.two (.scmp .eql 9 x0 x3)
 (.brk .ret ⟨[(4,x2)],[],0⟩ []
 (.leaf .ret ⟨[(4,x2)],[],0⟩))
 (.one (.inc 3 x2 x1)
 (.again [(2,x4)] [] [] []))))
 (.brk (.exit 0) ⟨[(4,y0)],[],0⟩ []
 (.leaf .ret ⟨[(4,(nn (-1)))],[],0⟩)))))
def f_ixS:List Fit:=[⟨0,[x2],[],[]⟩,⟨0,[(nn (-1))],[],[]⟩]
def C_ixSP:Con:=C_ixS
def p_ixS:List Con:=[C_ixHP,C_ixAP,C_ixTP,C_ixFP,C_ixKP]
def L_ixS:Nat->Prop:=Lf C_ixS p_ixS t_ixS [] false
def C_headerAt:Con:=⟨148,[.str 1048576],[0,1,2,3,4,5],0,[(.agg [v0,v1,v2,v3,v4,v5]),x0],[],0,[],[⟨[.int .i64],[],0,[.idx x1 0],(.ret x1),[],0⟩]⟩
def t_headerAt:Tree:=(.call 0 [x0] [0] []
 (.leaf .ret ⟨[(4,x1)],[],0⟩)
 .no
 .no)
def f_headerAt:List Fit:=[⟨0,[x1],[],[]⟩]
def C_headerAtP:Con:=C_headerAt
def p_headerAt:List Con:=[C_ixHP,C_ixAP,C_ixTP,C_ixFP,C_ixKP,C_ixSP]
def L_headerAt:Nat->Prop:=Lf C_headerAt p_headerAt t_headerAt [] false
def C_actionAt:Con:=⟨76,[.str 1048576],[0,1,2,3,4,5],0,[(.agg [v0,v1,v2,v3,v4,v5]),x0],[],0,[],[⟨[.int .i64],[],0,[.idx x1 3],(.ret x1),[],0⟩]⟩
def t_actionAt:Tree:=(.call 1 [x0] [3] []
 (.leaf .ret ⟨[(4,x1)],[],0⟩)
 .no
 .no)
def f_actionAt:List Fit:=[⟨0,[x1],[],[]⟩]
def C_actionAtP:Con:=C_actionAt
def p_actionAt:List Con:=[C_ixHP,C_ixAP,C_ixTP,C_ixFP,C_ixKP,C_ixSP,C_headerAtP]
def L_actionAt:Nat->Prop:=Lf C_actionAt p_actionAt t_actionAt [] false
def C_tableAt:Con:=⟨28,[.str 1048576],[0,1,2,3,4,5],0,[(.agg [v0,v1,v2,v3,v4,v5]),x0],[],0,[],[⟨[.int .i64],[],0,[.idx x1 4],(.ret x1),[],0⟩]⟩
def t_tableAt:Tree:=(.call 2 [x0] [4] []
 (.leaf .ret ⟨[(4,x1)],[],0⟩)
 .no
 .no)
def f_tableAt:List Fit:=[⟨0,[x1],[],[]⟩]
def C_tableAtP:Con:=C_tableAt.fn 50
def p_tableAt:List Con:=[C_ixHP,C_ixAP,C_ixTP,C_ixFP,C_ixKP,C_ixSP,C_headerAtP,C_actionAtP]
def L_tableAt:Nat->Prop:=Lf C_tableAt p_tableAt t_tableAt [] false
def C_fieldAt:Con:=⟨182,[.str 1048576],[1],0,[v0,x0],[],0,[],[⟨[.int .i64],[],0,[.idx x1 0],(.ret x1),[],0⟩]⟩
def t_fieldAt:Tree:=(.call 3 [x0] [0] []
 (.leaf .ret ⟨[(4,x1)],[],0⟩)
 .no
 .no)
def f_fieldAt:List Fit:=[⟨0,[x1],[],[]⟩]
def C_fieldAtP:Con:=C_fieldAt
def p_fieldAt:List Con:=[C_ixHP,C_ixAP,C_ixTP,C_ixFP,C_ixKP,C_ixSP,C_headerAtP,C_actionAtP,C_tableAtP]
def L_fieldAt:Nat->Prop:=Lf C_fieldAt p_fieldAt t_fieldAt [] false
def C_fieldOf:Con:=⟨149,[.str 1048576,.str 1048576],[0,1,2,3,4,5],0,[(.agg [v0,v1,v2,v3,v4,v5]),(.agg [x0,x1])],[],0,[],[⟨[],[],0,[],(.ret (.tup [(.agg [(ss []),y0]),ff])),[],3⟩,
 ⟨[.str 1048576,.int .i64],[],0,[],(.ret (.tup [(.agg [x2,x3]),tt])),[],3⟩]⟩
def t_fieldOf:Tree:=(.two (.scmp .eql 9 x0 (ss []))
 (.leaf .ret ⟨[(4,(.ptr 2 0)),(5,ff)],[(2,.row [(ss []),y0])],3⟩)
 (.two (.scmp .eql 9 x0 (ss [109,101,116,97]))
 (.call 9 [x1] [1] []
 (.two (.cmp .geq 3 x2 y0)
 (.one (.row 23 1 x2)
 (.leaf .ret ⟨[(4,(.ptr 2 0)),(5,tt)],[(2,.row [x3,x4])],3⟩))
 (.leaf .ret ⟨[(4,(.ptr 2 0)),(5,ff)],[(2,.row [(ss []),y0])],3⟩))
 .no
 .no)
 (.call 6 [x0] [0,1,2,3,4,5] []
 (.two (.cmp .lss 3 x2 y0)
 (.leaf .ret ⟨[(4,(.ptr 2 0)),(5,ff)],[(2,.row [(ss []),y0])],3⟩)
 (.one (.row 22 0 x2)
 (.call 9 [x1] [6] []
 (.two (.cmp .geq 3 x4 y0)
 (.one (.row 23 6 x4)
 (.leaf .ret ⟨[(4,(.ptr 2 0)),(5,tt)],[(2,.row [x5,x6])],3⟩))
 (.leaf .ret ⟨[(4,(.ptr 2 0)),(5,ff)],[(2,.row [(ss []),y0])],3⟩))
 .no
 .no)))
 .no
 .no)))
def f_fieldOf:List Fit:=[⟨0,[],[],[]⟩,⟨1,[x3,x4],[],[]⟩,⟨0,[],[],[]⟩,⟨0,[],[],[]⟩,⟨1,[x5,x6],[],[]⟩,⟨0,[],[],[]⟩]
def C_fieldOfP:Con:=C_fieldOf
def p_fieldOf:List Con:=[C_ixHP,C_ixAP,C_ixTP,C_ixFP,C_ixKP,C_ixSP,C_headerAtP,C_actionAtP,C_tableAtP,C_fieldAtP]
def L_fieldOf:Nat->Prop:=Lf C_fieldOf p_fieldOf t_fieldOf [] false
def C_fits:Con:=⟨78,[.int .u64,.int .u64,.int .i64],[],0,[(.agg [x0,x1]),x2],[],0,[],[⟨[],[],0,[],(.ret ff),[],0⟩,
 ⟨[],[],0,[],(.ret tt),[],0⟩]⟩
def t_fits:Tree:=(.two (.cmp .lss 3 x2 y1)
 (.leaf .ret ⟨[(4,ff)],[],0⟩)
 (.two (.cmp .gtr 3 x2 y128)
 (.leaf .ret ⟨[(4,ff)],[],0⟩)
 (.two (.cmp .gtr 3 x2 y64)
 (.two (.cmp .eql 3 x2 y128)
 (.leaf .ret ⟨[(4,tt)],[],0⟩)
 (.one (.subc 3 x2 y64)
 (.one (.sh .shl 52 (nk .u64 1) x3)
 (.two (.cmp .lss 52 x0 x4)
 (.leaf .ret ⟨[(4,tt)],[],0⟩)
 (.leaf .ret ⟨[(4,ff)],[],0⟩)))))
 (.two (.cmp .eql 52 x0 (nk .u64 0))
 (.two (.cmp .eql 3 x2 y64)
 (.leaf .ret ⟨[(4,tt)],[],0⟩)
 (.one (.sh .shl 52 (nk .u64 1) x2)
 (.two (.cmp .lss 52 x1 x3)
 (.leaf .ret ⟨[(4,tt)],[],0⟩)
 (.leaf .ret ⟨[(4,ff)],[],0⟩))))
 (.leaf .ret ⟨[(4,ff)],[],0⟩)))))
def f_fits:List Fit:=[⟨0,[],[],[]⟩,⟨0,[],[],[]⟩,⟨1,[],[],[]⟩,⟨1,[],[],[]⟩,⟨0,[],[],[]⟩,⟨1,[],[],[]⟩,⟨1,[],[],[]⟩,⟨0,[],[],[]⟩,⟨0,[],[],[]⟩]
def C_fitsP:Con:=C_fits
def p_fits:List Con:=[C_ixHP,C_ixAP,C_ixTP,C_ixFP,C_ixKP,C_ixSP,C_headerAtP,C_actionAtP,C_tableAtP,C_fieldAtP,C_fieldOfP]
def L_fits:Nat->Prop:=Lf C_fits p_fits t_fits [] false
def C_plain:Con:=⟨183,[.str 1048576,.str 1048576,.int .u64,.int .u64],[],0,[(.agg [x0,x1,x2,x3])],[],0,[],[⟨[],[],0,[],(.ret tt),[],0⟩,
 ⟨[],[],0,[],(.ret ff),[],0⟩]⟩
def t_plain:Tree:=(.two (.eqa .eql 49 [x0,x1] [(ss []),(ss [])])
 (.leaf .ret ⟨[(2,tt)],[],0⟩)
 (.two (.eqa .eql 54 [x2,x3] [(nk .u64 0),(nk .u64 0)])
 (.leaf .ret ⟨[(2,tt)],[],0⟩)
 (.leaf .ret ⟨[(2,ff)],[],0⟩)))
def f_plain:List Fit:=[⟨0,[],[],[]⟩,⟨0,[],[],[]⟩,⟨1,[],[],[]⟩]
def C_plainP:Con:=C_plain
def p_plain:List Con:=[C_ixHP,C_ixAP,C_ixTP,C_ixFP,C_ixKP,C_ixSP,C_headerAtP,C_actionAtP,C_tableAtP,C_fieldAtP,C_fieldOfP,C_fitsP]
def L_plain:Nat->Prop:=Lf C_plain p_plain t_plain [] false
def C_contains:Con:=⟨197,[.str 1048672,.str 1048672],[],0,[x0,x1],[],0,[],[⟨[],[],0,[],(.ret tt),[],0⟩,
 ⟨[],[],0,[],(.ret ff),[],0⟩]⟩
def C_containsP:Con:=C_contains
def C_isName:Con:=⟨179,[.str 1048576],[],0,[x0],[],0,[],[⟨[],[],0,[],(.ret ff),[],0⟩,
 ⟨[],[],0,[],(.ret tt),[],0⟩]⟩
def t_isName:Tree:=(.two (.scmp .eql 9 x0 (ss []))
 (.leaf .ret ⟨[(2,ff)],[],0⟩)
 (.one (.slen 9 x0)
 (.two (.cmp .gtr 3 x1 y32)
 (.leaf .ret ⟨[(2,ff)],[],0⟩)
 (.rule 0 [x0] [] []
 (.one (.len 96 0)
 (.loop ⟨[1,1,0,1,0],⟨[(0,x0),(2,ff),(14,v0),(15,x2),(16,x3)],[],0⟩,[(3,y0)],[(3,.nat)],[],[],3,x2,[],[],[],0,[]⟩
 (.two (.cmp .lss 3 x3 x2)
 (.one (.row 96 0 x3)
 (.two (.cmp .leq 5 (nk .u8 97) x4)
 (.two (.cmp .leq 5 x4 (nk .u8 122))
 (.one (.inc 3 x3 x2)
 (.again [(3,x5)] [] [] []))
 (.two (.cmp .eql 3 x3 y0)
 (.brk .ret ⟨[(0,x0),(2,ff)],[],0⟩ []
 (.leaf .ret ⟨[(2,ff)],[],0⟩))
 (.two (.cmp .neq 5 x4 (nk .u8 95))
 (.two (.cmp .lss 5 x4 (nk .u8 48))
 (.brk .ret ⟨[(0,x0),(2,ff)],[],0⟩ []
 (.leaf .ret ⟨[(2,ff)],[],0⟩))
 (.two (.cmp .gtr 5 x4 (nk .u8 57))
 (.brk .ret ⟨[(0,x0),(2,ff)],[],0⟩ []
 (.leaf .ret ⟨[(2,ff)],[],0⟩))
 (.one (.inc 3 x3 x2)
 (.again [(3,x5)] [] [] []))))
 (.one (.inc 3 x3 x2)
 (.again [(3,x5)] [] [] [])))))
 (.two (.cmp .eql 3 x3 y0)
 (.brk .ret ⟨[(0,x0),(2,ff)],[],0⟩ []
 (.leaf .ret ⟨[(2,ff)],[],0⟩))
 (.two (.cmp .neq 5 x4 (nk .u8 95))
 (.two (.cmp .lss 5 x4 (nk .u8 48))
 (.brk .ret ⟨[(0,x0),(2,ff)],[],0⟩ []
 (.leaf .ret ⟨[(2,ff)],[],0⟩))
 (.two (.cmp .gtr 5 x4 (nk .u8 57))
 (.brk .ret ⟨[(0,x0),(2,ff)],[],0⟩ []
 (.leaf .ret ⟨[(2,ff)],[],0⟩))
 (.one (.inc 3 x3 x2)
 (.again [(3,x5)] [] [] []))))
 (.one (.inc 3 x3 x2)
 (.again [(3,x5)] [] [] []))))))
 (.brk (.exit 0) ⟨[(0,x0),(2,ff)],[],0⟩ []
 (.one (.cat 9 (ss [32]) x0)
 (.one (.cat 9 x4 (ss [32]))
 (.call 13 [(ss [32,97,99,99,101,112,116,32,97,99,116,105,111,110,32,97,100,100,32,97,103,97,105,110,32,97,112,112,108,121,32,99,97,110,32,99,111,110,116,114,111,108,32,100,101,102,97,117,108,116,32,100,114,111,112,32,101,108,115,101,32,101,120,97,99,116,32,101,120,105,116,32,102,105,120,101,100,32,104,101,97,100,101,114,32,105,102,32,107,101,121,32,109,101,116,97,32,111,110,32,112,114,101,102,105,120,32,114,97,110,103,101,32,114,101,106,101,99,116,32,114,101,109,111,118,101,32,115,105,122,101,32,115,116,97,116,101,32,115,117,109,32,116,97,98,108,101,32,116,97,107,101,32,116,101,114,110,97,114,121,32,118,97,108,105,100,32]),x5] [] []
 (.leaf .ret ⟨[(2,ff)],[],0⟩)
 (.leaf .ret ⟨[(2,tt)],[],0⟩)
 .no)))))))
 .no))))
def f_isName:List Fit:=[⟨0,[],[],[]⟩,⟨0,[],[],[]⟩,⟨0,[],[],[]⟩,⟨0,[],[],[]⟩,⟨0,[],[],[]⟩,⟨0,[],[],[]⟩,⟨0,[],[],[]⟩,⟨0,[],[],[]⟩,⟨0,[],[],[]⟩,⟨1,[],[],[]⟩]
def C_isNameP:Con:=C_isName
def p_isName:List Con:=[C_ixHP,C_ixAP,C_ixTP,C_ixFP,C_ixKP,C_ixSP,C_headerAtP,C_actionAtP,C_tableAtP,C_fieldAtP,C_fieldOfP,C_fitsP,C_plainP,C_containsP]
def L_isName:Nat->Prop:=Lf C_isName p_isName t_isName [] false
def C_name:Con:=⟨147,[.str 1048640,.str 1048576],[0,1,2,3,4,5],1,[(.ptr 0 0),x1,(.map 1)],[(0,.row [v0,v1,v2,v3,v4,v5,x0]),(1,.mu 0)],2,[.mk 0 true],[⟨[.nat],[],1,[.cmp .geq x2 y0 true,.cmp .geq x2 y1 true,.cmp .leq x2 y128 true,.mk 1 true],(.pan (.iface 162 (.agg [x2,x0]))),[(0,.row [v0,v1,v2,v3,v4,v5,x0]),(1,.mu 1)],2⟩,
 ⟨[],[],1,[.mk 1 true],(.ret (.tup [])),[(0,.row [v0,v1,v2,v3,v4,v5,x0]),(1,.mu 1)],2⟩]⟩
def t_name:Tree:=(.call 14 [x1] [] []
 (.leaf (.pan (.iface 162 (.agg [y70,x0]))) ⟨[],[(0,.row [v0,v1,v2,v3,v4,v5,x0]),(1,.mu 0)],2⟩)
 (.one (.look 169 0 x1)
 (.two (.cmp .eql 3 x2 y0)
 (.one (.upd 169 0 x1 y1)
 (.leaf .normal ⟨[],[(0,.row [v0,v1,v2,v3,v4,v5,x0]),(1,.mu 1)],2⟩))
 (.leaf (.pan (.iface 162 (.agg [y71,x0]))) ⟨[],[(0,.row [v0,v1,v2,v3,v4,v5,x0]),(1,.mu 0)],2⟩)))
 .no)
def f_name:List Fit:=[⟨0,[y70],[],[0]⟩,⟨1,[],[],[1]⟩,⟨0,[y71],[],[0]⟩]
def C_nameP:Con:=C_name
def p_name:List Con:=[C_ixHP,C_ixAP,C_ixTP,C_ixFP,C_ixKP,C_ixSP,C_headerAtP,C_actionAtP,C_tableAtP,C_fieldAtP,C_fieldOfP,C_fitsP,C_plainP,C_containsP,C_isNameP]
def L_name:Nat->Prop:=Lf C_name p_name t_name [] false
def C_fields:Con:=⟨96,[.str 1048640],[0,1,2,3,4,5,1],0,[(.ptr 0 0),v6],[(0,.row [v0,v1,v2,v3,v4,v5,x0])],1,[],[⟨[.nat],[],0,[.cmp .geq x1 y0 true,.cmp .geq x1 y1 true,.cmp .leq x1 y128 true],(.pan (.iface 162 (.agg [x1,x0]))),[(0,.row [v0,v1,v2,v3,v4,v5,x0])],1⟩,
 ⟨[],[],0,[],(.ret (.tup [])),[(0,.row [v0,v1,v2,v3,v4,v5,x0])],1⟩]⟩
def t_fields:Tree:=(.one (.len 23 6)
 (.rule 4 [] [2] []
 (.rule 28 [] [2] []
 (.rule 36 [] [4] []
 (.loop ⟨[1,1,0],⟨[(0,(.ptr 0 0)),(4,(.map 1)),(8,v6),(9,x1),(10,x2)],[(0,.row [v0,v1,v2,v3,v4,v5,x0]),(1,.mu 0)],2⟩,[(2,y0)],[(2,.nat)],[(0,(.lit [] 0))],[(0,true)],2,x1,[],[],[],2,[]⟩
 (.two (.cmp .lss 3 x2 x1)
 (.one (.row 23 6 x2)
 (.call 15 [x0,x3] [0,1,2,3,4,5] [0]
 (.brk (.pan (.iface 162 (.agg [x5,x0]))) ⟨[],[(0,.row [v0,v1,v2,v3,v4,v5,x0])],2⟩ []
 (.leaf (.pan (.iface 162 (.agg [x5,x0]))) ⟨[],[(0,.row [v0,v1,v2,v3,v4,v5,x0])],1⟩))
 (.two (.cmp .geq 3 x4 y1)
 (.two (.cmp .leq 3 x4 y128)
 (.one (.inc 3 x2 x1)
 (.again [(2,x5)] [(0,(.nm 1))] [] []))
 (.brk (.pan (.iface 162 (.agg [y73,x0]))) ⟨[],[(0,.row [v0,v1,v2,v3,v4,v5,x0])],2⟩ []
 (.leaf (.pan (.iface 162 (.agg [y73,x0]))) ⟨[],[(0,.row [v0,v1,v2,v3,v4,v5,x0])],1⟩)))
 (.brk (.pan (.iface 162 (.agg [y73,x0]))) ⟨[],[(0,.row [v0,v1,v2,v3,v4,v5,x0])],2⟩ []
 (.leaf (.pan (.iface 162 (.agg [y73,x0]))) ⟨[],[(0,.row [v0,v1,v2,v3,v4,v5,x0])],1⟩)))
 .no))
 (.brk (.exit 0) ⟨[],[(0,.row [v0,v1,v2,v3,v4,v5,x0])],2⟩ []
 (.leaf .normal ⟨[],[(0,.row [v0,v1,v2,v3,v4,v5,x0])],1⟩))))
 .no)
 .no)
 .no))
def f_fields:List Fit:=[⟨0,[x5],[],[]⟩,⟨0,[y73],[],[]⟩,⟨0,[y73],[],[]⟩,⟨1,[],[],[]⟩]
def C_fieldsP:Con:=C_fields
def p_fields:List Con:=[C_ixHP,C_ixAP,C_ixTP,C_ixFP,C_ixKP,C_ixSP,C_headerAtP,C_actionAtP,C_tableAtP,C_fieldAtP,C_fieldOfP,C_fitsP,C_plainP,C_containsP,C_isNameP,C_nameP]
def L_fields:Nat->Prop:=Lf C_fields p_fields t_fields [] false
def C_headers:Con:=⟨94,[.str 1048640],[0,1,2,3,4,5],0,[(.ptr 0 0)],[(0,.row [v0,v1,v2,v3,v4,v5,x0])],1,[],[⟨[.nat,.str 1048583],[],0,[.cmp .geq x1 y0 true,.cmp .geq x1 y1 true,.cmp .leq x1 y128 true],(.pan (.iface 162 (.agg [x1,x2]))),[(0,.row [v0,v1,v2,v3,v4,v5,x2])],1⟩,
 ⟨[.str 1048640],[],0,[],(.ret (.tup [])),[(0,.row [v0,v1,v2,v3,v4,v5,x1])],1⟩]⟩
def t_headers:Tree:=(.one (.len 22 0)
 (.two (.cmp .leq 3 x1 y32)
 (.rule 4 [] [2] []
 (.rule 28 [] [2] []
 (.rule 36 [] [4] []
 (.loop ⟨[1,1,1,1,0],⟨[(0,(.ptr 0 0)),(2,(.map 1)),(25,v0),(26,x1),(27,x2)],[(0,.row [v0,v1,v2,v3,v4,v5,x3]),(1,.mu 0)],2⟩,[(2,y0),(3,(ss [104,101,97,100,101,114]))],[(2,.nat),(3,.str 1048640)],[(0,(.lit [] 0))],[(0,true)],2,x1,[],[],[],2,[]⟩
 (.two (.cmp .lss 3 x2 x1)
 (.one (.row 22 0 x2)
 (.one (.cat 9 (ss [104,101,97,100,101,114,32]) x4)
 (.call 15 [x5,x4] [0,1,2,3,4,5] [0]
 (.brk (.pan (.iface 162 (.agg [x6,x5]))) ⟨[],[(0,.row [v0,v1,v2,v3,v4,v5,x5])],2⟩ []
 (.leaf (.pan (.iface 162 (.agg [x6,x5]))) ⟨[],[(0,.row [v0,v1,v2,v3,v4,v5,x5])],1⟩))
 (.one (.len 23 6)
 (.two (.cmp .gtr 3 x6 y0)
 (.two (.cmp .leq 3 x6 y32)
 (.call 16 [x5] [0,1,2,3,4,5,6] []
 (.brk (.pan (.iface 162 (.agg [x7,x5]))) ⟨[],[(0,.row [v0,v1,v2,v3,v4,v5,x5])],2⟩ []
 (.leaf (.pan (.iface 162 (.agg [x7,x5]))) ⟨[],[(0,.row [v0,v1,v2,v3,v4,v5,x5])],1⟩))
 (.rule 40 [] [] []
 (.loop ⟨[1,1,1,1,0,0,1,1,0,0,1,1,1,1,1,1,0,1,0],⟨[(0,(.ptr 0 0)),(2,(.map 1)),(5,x7),(25,v0),(26,x1),(27,x2),(48,(.ptr 2 1)),(49,v6),(50,x6),(51,tt),(59,v6),(60,x6),(61,x8)],[(0,.row [v0,v1,v2,v3,v4,v5,x5]),(1,.mu 1),(2,.row [x4,v6])],3⟩,[(7,y0),(8,y0)],[(7,.int .i64),(8,.nat)],[],[],8,x6,[],[],[.cus 15 [x8,x8] [] []],3,[]⟩
 (.two (.cmp .lss 3 x8 x6)
 (.one (.row 23 6 x8)
 (.one (.ari .add 3 x7 x10)
 (.one (.inc 3 x8 x6)
 (.rule 41 [x8,x8,x12,x12] [] []
 (.again [(7,x11),(8,x12)] [] [] [])
 .no))))
 (.brk (.exit 2) ⟨[(0,(.ptr 0 0)),(2,(.map 1)),(5,x7),(25,v0),(26,x1),(27,x2),(48,(.ptr 2 1)),(49,v6),(50,x6),(51,tt)],[(0,.row [v0,v1,v2,v3,v4,v5,x5]),(1,.mu 1),(2,.row [x4,v6])],3⟩ []
 (.one (.ari .rem 3 x7 y8)
 (.two (.cmp .eql 3 x9 y0)
 (.one (.inc 3 x2 x1)
 (.again [(2,x10),(3,x5)] [(0,(.nm 1))] [] []))
 (.brk (.pan (.iface 162 (.agg [y73,x5]))) ⟨[],[(0,.row [v0,v1,v2,v3,v4,v5,x5])],2⟩ []
 (.leaf (.pan (.iface 162 (.agg [y73,x5]))) ⟨[],[(0,.row [v0,v1,v2,v3,v4,v5,x5])],1⟩)))))))
 .no)
 .no)
 (.brk (.pan (.iface 162 (.agg [y74,x5]))) ⟨[],[(0,.row [v0,v1,v2,v3,v4,v5,x5])],2⟩ []
 (.leaf (.pan (.iface 162 (.agg [y74,x5]))) ⟨[],[(0,.row [v0,v1,v2,v3,v4,v5,x5])],1⟩)))
 (.brk (.pan (.iface 162 (.agg [y74,x5]))) ⟨[],[(0,.row [v0,v1,v2,v3,v4,v5,x5])],2⟩ []
 (.leaf (.pan (.iface 162 (.agg [y74,x5]))) ⟨[],[(0,.row [v0,v1,v2,v3,v4,v5,x5])],1⟩))))
 .no)))
 (.brk (.exit 0) ⟨[],[(0,.row [v0,v1,v2,v3,v4,v5,x3])],2⟩ []
 (.leaf .normal ⟨[],[(0,.row [v0,v1,v2,v3,v4,v5,x3])],1⟩))))
 .no)
 .no)
 .no)
 (.leaf (.pan (.iface 162 (.agg [y74,(ss [104,101,97,100,101,114])]))) ⟨[],[(0,.row [v0,v1,v2,v3,v4,v5,(ss [104,101,97,100,101,114])])],1⟩)))
def f_headers:List Fit:=[⟨0,[x6,x5],[],[]⟩,⟨0,[x7,x5],[],[]⟩,⟨0,[y73,x5],[],[]⟩,⟨0,[y74,x5],[],[]⟩,⟨0,[y74,x5],[],[]⟩,⟨1,[x3],[],[]⟩,⟨0,[y74,(ss [104,101,97,100,101,114])],[],[]⟩]
def C_headersP:Con:=C_headers
def p_headers:List Con:=[C_ixHP,C_ixAP,C_ixTP,C_ixFP,C_ixKP,C_ixSP,C_headerAtP,C_actionAtP,C_tableAtP,C_fieldAtP,C_fieldOfP,C_fitsP,C_plainP,C_containsP,C_isNameP,C_nameP,C_fieldsP]
def L_headers:Nat->Prop:=Lf C_headers p_headers t_headers [] false
def C_Width:Con:=⟨104,[.str 1048576,.str 1048576],[0,1,2,3,4,5],0,[(.agg [v0,v1,v2,v3,v4,v5]),(.agg [x0,x1])],[],0,[],[⟨[.int .i64],[],0,[.cmp .geq x2 y0 true,.cmp .leq x2 y128 true],(.ret x2),[],0⟩]⟩
def t_Width:Tree:=(.call 10 [x0,x1] [0,1,2,3,4,5] []
 (.leaf .ret ⟨[(4,y0)],[],0⟩)
 (.two (.cmp .lss 3 x3 y1)
 (.leaf .ret ⟨[(4,y0)],[],0⟩)
 (.two (.cmp .gtr 3 x3 y128)
 (.leaf .ret ⟨[(4,y0)],[],0⟩)
 (.leaf .ret ⟨[(4,x3)],[],0⟩)))
 .no)
def f_Width:List Fit:=[⟨0,[y0],[],[]⟩,⟨0,[y0],[],[]⟩,⟨0,[y0],[],[]⟩,⟨0,[x3],[],[]⟩]
def C_WidthP:Con:=C_Width
def p_Width:List Con:=[C_ixHP,C_ixAP,C_ixTP,C_ixFP,C_ixKP,C_ixSP,C_headerAtP,C_actionAtP,C_tableAtP,C_fieldAtP,C_fieldOfP,C_fitsP,C_plainP,C_containsP,C_isNameP,C_nameP,C_fieldsP,C_headersP]
def L_Width:Nat->Prop:=Lf C_Width p_Width t_Width [] false
def C_Kind:Con:=⟨7,[.str 1048576,.int .i64,.str 1048576,.boo],[10,11,7],0,[(.agg [x0,v0,v1,x1,x2,v2,x3])],[],0,[],[⟨[.nat],[],0,[.cmp .geq x4 y0 true,.cmp .geq x4 y1 true,.cmp .leq x4 y4 true,.cmp .leq x4 y64 true,.cmp .leq x4 y128 true,.cus 121 [x4] [0] []],(.ret x4),[],0⟩]⟩
def t_Kind:Tree:=(.call 4 [y3] [0] []
 (.two (.cmp .geq 3 x4 y0)
 (.rule 67 [x4] [0] []
 (.leaf .ret ⟨[(2,y3)],[],0⟩)
 .no)
 (.call 4 [y4] [0] []
 (.two (.cmp .geq 3 x5 y0)
 (.rule 68 [x5] [0] []
 (.leaf .ret ⟨[(2,y3)],[],0⟩)
 .no)
 (.call 4 [y2] [0] []
 (.two (.cmp .geq 3 x6 y0)
 (.rule 69 [x4,x5] [0] []
 (.leaf .ret ⟨[(2,y2)],[],0⟩)
 .no)
 (.rule 70 [x4,x5] [0] []
 (.leaf .ret ⟨[(2,y1)],[],0⟩)
 .no))
 .no
 .no))
 .no
 .no))
 .no
 .no)
def f_Kind:List Fit:=[⟨0,[y3],[],[]⟩,⟨0,[y3],[],[]⟩,⟨0,[y2],[],[]⟩,⟨0,[y1],[],[]⟩]
def C_KindP:Con:=C_Kind
def p_Kind:List Con:=[C_ixHP,C_ixAP,C_ixTP,C_ixFP,C_ixKP,C_ixSP,C_headerAtP,C_actionAtP,C_tableAtP,C_fieldAtP,C_fieldOfP,C_fitsP,C_plainP,C_containsP,C_isNameP,C_nameP,C_fieldsP,C_headersP,C_WidthP]
def L_Kind:Nat->Prop:=Lf C_Kind p_Kind t_Kind [] false
def C_Call:Con:=⟨39,[.str 1048576,.str 1048576],[0,1,2,3,4,5,7],0,[(.agg [v0,v1,v2,v3,v4,v5]),x0,(.agg [x1,v6])],[],0,[],[⟨[.nat],[],0,[.cmp .geq x2 y0 true,.cmp .leq x2 y128 true],(.ret x2),[],0⟩]⟩
def t_Call:Tree:=(.call 8 [x0] [0,1,2,3,4,5] []
 (.call 7 [x1] [0,1,2,3,4,5] []
 (.two (.cmp .lss 3 x2 y0)
 (.leaf .ret ⟨[(6,y110)],[],0⟩)
 (.two (.cmp .lss 3 x3 y0)
 (.leaf .ret ⟨[(6,y113)],[],0⟩)
 (.one (.row 26 4 x2)
 (.call 5 [x1] [8] []
 (.two (.cmp .geq 3 x8 y0)
 (.one (.row 25 3 x3)
 (.one (.len 23 10)
 (.one (.len 31 6)
 (.two (.cmp .neq 3 x10 x11)
 (.leaf .ret ⟨[(6,y76)],[],0⟩)
 (.rule 28 [] [2] []
 (.rule 36 [] [4] []
 (.loop ⟨[1,1,1,0,1,0],⟨[(5,(.ptr 1 0)),(6,y0),(53,v10),(54,x10),(55,x12)],[(1,.row [x1,v6])],38⟩,[(12,y0)],[(12,.nat)],[],[],12,x10,[],[],[],38,[]⟩
 (.two (.cmp .lss 3 x12 x10)
 (.one (.row 23 10 x12)
 (.one (.row 31 6 x12)
 (.call 11 [x15,x16,x14] [] []
 (.brk .ret ⟨[(6,y76)],[],38⟩ []
 (.leaf .ret ⟨[(6,y76)],[],0⟩))
 (.one (.inc 3 x12 x10)
 (.again [(12,x17)] [] [] []))
 .no)))
 (.brk (.exit 1) ⟨[(6,y0)],[],38⟩ []
 (.leaf .ret ⟨[(6,y0)],[],0⟩))))
 .no)
 .no)))))
 (.leaf .ret ⟨[(6,y113)],[],0⟩))
 .no
 .no))))
 .no
 .no)
 .no
 .no)
def f_Call:List Fit:=[⟨0,[y110],[],[]⟩,⟨0,[y113],[],[]⟩,⟨0,[y76],[],[]⟩,⟨0,[y76],[],[]⟩,⟨0,[y0],[],[]⟩,⟨0,[y113],[],[]⟩]
def C_CallP:Con:=C_Call
def p_Call:List Con:=[C_ixHP,C_ixAP,C_ixTP,C_ixFP,C_ixKP,C_ixSP,C_headerAtP,C_actionAtP,C_tableAtP,C_fieldAtP,C_fieldOfP,C_fitsP,C_plainP,C_containsP,C_isNameP,C_nameP,C_fieldsP,C_headersP,C_WidthP,C_KindP]
def L_Call:Nat->Prop:=Lf C_Call p_Call t_Call [] false
def C_step:Con:=⟨151,[.str 1048640,.int .i64,.str 1048576,.str 1048576,.int .i64,.str 1048576,.str 1048576,.int .u64,.int .u64,.str 1048576,.str 1048576,.int .u64,.int .u64],[0,1,2,3,4,5,1],0,[(.ptr 0 0),v6,(.agg [x1,x2,x3,x4,x5,x6,x7,x8,x9,x10,x11,x12])],[(0,.row [v0,v1,v2,v3,v4,v5,x0])],1,[],[⟨[.nat],[],0,[.cmp .geq x13 y0 true,.cmp .geq x13 y1 true,.cmp .leq x13 y128 true],(.pan (.iface 162 (.agg [x13,x0]))),[(0,.row [v0,v1,v2,v3,v4,v5,x0])],1⟩,
 ⟨[],[],0,[],(.ret (.tup [])),[(0,.row [v0,v1,v2,v3,v4,v5,x0])],1⟩]⟩
def t_step:Tree:=(.two (.cmp .eql 3 x1 y1)
 (.two (.cmp .geq 3 x4 y0)
 (.two (.cmp .leq 3 x4 y5)
 (.call 12 [x5,x6,x7,x8] [] []
 (.call 12 [x9,x10,x11,x12] [] []
 (.two (.cmp .neq 3 x4 y0)
 (.call 10 [x2,x3] [0,1,2,3,4,5] []
 (.leaf (.pan (.iface 162 (.agg [y72,x0]))) ⟨[],[(0,.row [v0,v1,v2,v3,v4,v5,x0])],1⟩)
 (.two (.eqa .eql 49 [x5,x6] [(ss []),(ss [])])
 (.two (.eqa .eql 49 [x9,x10] [(ss []),(ss [])])
 (.call 11 [x7,x8,x14] [] []
 (.leaf (.pan (.iface 162 (.agg [y73,x0]))) ⟨[],[(0,.row [v0,v1,v2,v3,v4,v5,x0])],1⟩)
 (.call 11 [x11,x12,x14] [] []
 (.leaf (.pan (.iface 162 (.agg [y73,x0]))) ⟨[],[(0,.row [v0,v1,v2,v3,v4,v5,x0])],1⟩)
 (.leaf .normal ⟨[],[(0,.row [v0,v1,v2,v3,v4,v5,x0])],1⟩)
 .no)
 .no)
 (.call 10 [x9,x10] [0,1,2,3,4,5] []
 (.two (.scmp .eql 9 x9 (ss []))
 (.call 9 [x10] [6] []
 (.two (.cmp .geq 3 x15 y0)
 (.one (.row 23 6 x15)
 (.call 11 [x7,x8,x14] [] []
 (.leaf (.pan (.iface 162 (.agg [y73,x0]))) ⟨[],[(0,.row [v0,v1,v2,v3,v4,v5,x0])],1⟩)
 (.two (.cmp .eql 3 x17 x14)
 (.leaf .normal ⟨[],[(0,.row [v0,v1,v2,v3,v4,v5,x0])],1⟩)
 (.leaf (.pan (.iface 162 (.agg [y73,x0]))) ⟨[],[(0,.row [v0,v1,v2,v3,v4,v5,x0])],1⟩))
 .no))
 (.leaf (.pan (.iface 162 (.agg [y72,x0]))) ⟨[],[(0,.row [v0,v1,v2,v3,v4,v5,x0])],1⟩))
 .no
 .no)
 (.leaf (.pan (.iface 162 (.agg [y72,x0]))) ⟨[],[(0,.row [v0,v1,v2,v3,v4,v5,x0])],1⟩))
 (.two (.scmp .eql 9 x9 (ss []))
 (.call 9 [x10] [6] []
 (.two (.cmp .geq 3 x17 y0)
 (.one (.row 23 6 x17)
 (.call 11 [x7,x8,x14] [] []
 (.leaf (.pan (.iface 162 (.agg [y73,x0]))) ⟨[],[(0,.row [v0,v1,v2,v3,v4,v5,x0])],1⟩)
 (.two (.cmp .eql 3 x19 x14)
 (.leaf .normal ⟨[],[(0,.row [v0,v1,v2,v3,v4,v5,x0])],1⟩)
 (.leaf (.pan (.iface 162 (.agg [y73,x0]))) ⟨[],[(0,.row [v0,v1,v2,v3,v4,v5,x0])],1⟩))
 .no))
 (.call 11 [x7,x8,x14] [] []
 (.leaf (.pan (.iface 162 (.agg [y73,x0]))) ⟨[],[(0,.row [v0,v1,v2,v3,v4,v5,x0])],1⟩)
 (.two (.cmp .eql 3 x16 x14)
 (.leaf .normal ⟨[],[(0,.row [v0,v1,v2,v3,v4,v5,x0])],1⟩)
 (.leaf (.pan (.iface 162 (.agg [y73,x0]))) ⟨[],[(0,.row [v0,v1,v2,v3,v4,v5,x0])],1⟩))
 .no))
 .no
 .no)
 (.call 11 [x7,x8,x14] [] []
 (.leaf (.pan (.iface 162 (.agg [y73,x0]))) ⟨[],[(0,.row [v0,v1,v2,v3,v4,v5,x0])],1⟩)
 (.two (.cmp .eql 3 x16 x14)
 (.leaf .normal ⟨[],[(0,.row [v0,v1,v2,v3,v4,v5,x0])],1⟩)
 (.leaf (.pan (.iface 162 (.agg [y73,x0]))) ⟨[],[(0,.row [v0,v1,v2,v3,v4,v5,x0])],1⟩))
 .no))
 .no))
 (.call 10 [x5,x6] [0,1,2,3,4,5] []
 (.two (.scmp .eql 9 x5 (ss []))
 (.call 9 [x6] [6] []
 (.two (.cmp .geq 3 x15 y0)
 (.one (.row 23 6 x15)
 (.two (.eqa .eql 49 [x9,x10] [(ss []),(ss [])])
 (.two (.cmp .eql 3 x17 x14)
 (.call 11 [x11,x12,x14] [] []
 (.leaf (.pan (.iface 162 (.agg [y73,x0]))) ⟨[],[(0,.row [v0,v1,v2,v3,v4,v5,x0])],1⟩)
 (.leaf .normal ⟨[],[(0,.row [v0,v1,v2,v3,v4,v5,x0])],1⟩)
 .no)
 (.leaf (.pan (.iface 162 (.agg [y73,x0]))) ⟨[],[(0,.row [v0,v1,v2,v3,v4,v5,x0])],1⟩))
 (.call 10 [x9,x10] [0,1,2,3,4,5] []
 (.two (.scmp .eql 9 x9 (ss []))
 (.call 9 [x10] [6] []
 (.two (.cmp .geq 3 x18 y0)
 (.one (.row 23 6 x18)
 (.two (.cmp .eql 3 x17 x14)
 (.two (.cmp .eql 3 x20 x14)
 (.leaf .normal ⟨[],[(0,.row [v0,v1,v2,v3,v4,v5,x0])],1⟩)
 (.leaf (.pan (.iface 162 (.agg [y73,x0]))) ⟨[],[(0,.row [v0,v1,v2,v3,v4,v5,x0])],1⟩))
 (.leaf (.pan (.iface 162 (.agg [y73,x0]))) ⟨[],[(0,.row [v0,v1,v2,v3,v4,v5,x0])],1⟩)))
 (.leaf (.pan (.iface 162 (.agg [y72,x0]))) ⟨[],[(0,.row [v0,v1,v2,v3,v4,v5,x0])],1⟩))
 .no
 .no)
 (.leaf (.pan (.iface 162 (.agg [y72,x0]))) ⟨[],[(0,.row [v0,v1,v2,v3,v4,v5,x0])],1⟩))
 (.two (.scmp .eql 9 x9 (ss []))
 (.call 9 [x10] [6] []
 (.two (.cmp .geq 3 x20 y0)
 (.one (.row 23 6 x20)
 (.two (.cmp .eql 3 x17 x14)
 (.two (.cmp .eql 3 x22 x14)
 (.leaf .normal ⟨[],[(0,.row [v0,v1,v2,v3,v4,v5,x0])],1⟩)
 (.leaf (.pan (.iface 162 (.agg [y73,x0]))) ⟨[],[(0,.row [v0,v1,v2,v3,v4,v5,x0])],1⟩))
 (.leaf (.pan (.iface 162 (.agg [y73,x0]))) ⟨[],[(0,.row [v0,v1,v2,v3,v4,v5,x0])],1⟩)))
 (.two (.cmp .eql 3 x17 x14)
 (.two (.cmp .eql 3 x19 x14)
 (.leaf .normal ⟨[],[(0,.row [v0,v1,v2,v3,v4,v5,x0])],1⟩)
 (.leaf (.pan (.iface 162 (.agg [y73,x0]))) ⟨[],[(0,.row [v0,v1,v2,v3,v4,v5,x0])],1⟩))
 (.leaf (.pan (.iface 162 (.agg [y73,x0]))) ⟨[],[(0,.row [v0,v1,v2,v3,v4,v5,x0])],1⟩)))
 .no
 .no)
 (.two (.cmp .eql 3 x17 x14)
 (.two (.cmp .eql 3 x19 x14)
 (.leaf .normal ⟨[],[(0,.row [v0,v1,v2,v3,v4,v5,x0])],1⟩)
 (.leaf (.pan (.iface 162 (.agg [y73,x0]))) ⟨[],[(0,.row [v0,v1,v2,v3,v4,v5,x0])],1⟩))
 (.leaf (.pan (.iface 162 (.agg [y73,x0]))) ⟨[],[(0,.row [v0,v1,v2,v3,v4,v5,x0])],1⟩)))
 .no)))
 (.leaf (.pan (.iface 162 (.agg [y72,x0]))) ⟨[],[(0,.row [v0,v1,v2,v3,v4,v5,x0])],1⟩))
 .no
 .no)
 (.leaf (.pan (.iface 162 (.agg [y72,x0]))) ⟨[],[(0,.row [v0,v1,v2,v3,v4,v5,x0])],1⟩))
 (.two (.scmp .eql 9 x5 (ss []))
 (.call 9 [x6] [6] []
 (.two (.cmp .geq 3 x17 y0)
 (.one (.row 23 6 x17)
 (.two (.eqa .eql 49 [x9,x10] [(ss []),(ss [])])
 (.two (.cmp .eql 3 x19 x14)
 (.call 11 [x11,x12,x14] [] []
 (.leaf (.pan (.iface 162 (.agg [y73,x0]))) ⟨[],[(0,.row [v0,v1,v2,v3,v4,v5,x0])],1⟩)
 (.leaf .normal ⟨[],[(0,.row [v0,v1,v2,v3,v4,v5,x0])],1⟩)
 .no)
 (.leaf (.pan (.iface 162 (.agg [y73,x0]))) ⟨[],[(0,.row [v0,v1,v2,v3,v4,v5,x0])],1⟩))
 (.call 10 [x9,x10] [0,1,2,3,4,5] []
 (.two (.scmp .eql 9 x9 (ss []))
 (.call 9 [x10] [6] []
 (.two (.cmp .geq 3 x20 y0)
 (.one (.row 23 6 x20)
 (.two (.cmp .eql 3 x19 x14)
 (.two (.cmp .eql 3 x22 x14)
 (.leaf .normal ⟨[],[(0,.row [v0,v1,v2,v3,v4,v5,x0])],1⟩)
 (.leaf (.pan (.iface 162 (.agg [y73,x0]))) ⟨[],[(0,.row [v0,v1,v2,v3,v4,v5,x0])],1⟩))
 (.leaf (.pan (.iface 162 (.agg [y73,x0]))) ⟨[],[(0,.row [v0,v1,v2,v3,v4,v5,x0])],1⟩)))
 (.leaf (.pan (.iface 162 (.agg [y72,x0]))) ⟨[],[(0,.row [v0,v1,v2,v3,v4,v5,x0])],1⟩))
 .no
 .no)
 (.leaf (.pan (.iface 162 (.agg [y72,x0]))) ⟨[],[(0,.row [v0,v1,v2,v3,v4,v5,x0])],1⟩))
 (.two (.scmp .eql 9 x9 (ss []))
 (.call 9 [x10] [6] []
 (.two (.cmp .geq 3 x22 y0)
 (.one (.row 23 6 x22)
 (.two (.cmp .eql 3 x19 x14)
 (.two (.cmp .eql 3 x24 x14)
 (.leaf .normal ⟨[],[(0,.row [v0,v1,v2,v3,v4,v5,x0])],1⟩)
 (.leaf (.pan (.iface 162 (.agg [y73,x0]))) ⟨[],[(0,.row [v0,v1,v2,v3,v4,v5,x0])],1⟩))
 (.leaf (.pan (.iface 162 (.agg [y73,x0]))) ⟨[],[(0,.row [v0,v1,v2,v3,v4,v5,x0])],1⟩)))
 (.two (.cmp .eql 3 x19 x14)
 (.two (.cmp .eql 3 x21 x14)
 (.leaf .normal ⟨[],[(0,.row [v0,v1,v2,v3,v4,v5,x0])],1⟩)
 (.leaf (.pan (.iface 162 (.agg [y73,x0]))) ⟨[],[(0,.row [v0,v1,v2,v3,v4,v5,x0])],1⟩))
 (.leaf (.pan (.iface 162 (.agg [y73,x0]))) ⟨[],[(0,.row [v0,v1,v2,v3,v4,v5,x0])],1⟩)))
 .no
 .no)
 (.two (.cmp .eql 3 x19 x14)
 (.two (.cmp .eql 3 x21 x14)
 (.leaf .normal ⟨[],[(0,.row [v0,v1,v2,v3,v4,v5,x0])],1⟩)
 (.leaf (.pan (.iface 162 (.agg [y73,x0]))) ⟨[],[(0,.row [v0,v1,v2,v3,v4,v5,x0])],1⟩))
 (.leaf (.pan (.iface 162 (.agg [y73,x0]))) ⟨[],[(0,.row [v0,v1,v2,v3,v4,v5,x0])],1⟩)))
 .no)))
 (.two (.eqa .eql 49 [x9,x10] [(ss []),(ss [])])
 (.two (.cmp .eql 3 x16 x14)
 (.call 11 [x11,x12,x14] [] []
 (.leaf (.pan (.iface 162 (.agg [y73,x0]))) ⟨[],[(0,.row [v0,v1,v2,v3,v4,v5,x0])],1⟩)
 (.leaf .normal ⟨[],[(0,.row [v0,v1,v2,v3,v4,v5,x0])],1⟩)
 .no)
 (.leaf (.pan (.iface 162 (.agg [y73,x0]))) ⟨[],[(0,.row [v0,v1,v2,v3,v4,v5,x0])],1⟩))
 (.call 10 [x9,x10] [0,1,2,3,4,5] []
 (.two (.scmp .eql 9 x9 (ss []))
 (.call 9 [x10] [6] []
 (.two (.cmp .geq 3 x18 y0)
 (.one (.row 23 6 x18)
 (.two (.cmp .eql 3 x16 x14)
 (.two (.cmp .eql 3 x20 x14)
 (.leaf .normal ⟨[],[(0,.row [v0,v1,v2,v3,v4,v5,x0])],1⟩)
 (.leaf (.pan (.iface 162 (.agg [y73,x0]))) ⟨[],[(0,.row [v0,v1,v2,v3,v4,v5,x0])],1⟩))
 (.leaf (.pan (.iface 162 (.agg [y73,x0]))) ⟨[],[(0,.row [v0,v1,v2,v3,v4,v5,x0])],1⟩)))
 (.leaf (.pan (.iface 162 (.agg [y72,x0]))) ⟨[],[(0,.row [v0,v1,v2,v3,v4,v5,x0])],1⟩))
 .no
 .no)
 (.leaf (.pan (.iface 162 (.agg [y72,x0]))) ⟨[],[(0,.row [v0,v1,v2,v3,v4,v5,x0])],1⟩))
 (.two (.scmp .eql 9 x9 (ss []))
 (.call 9 [x10] [6] []
 (.two (.cmp .geq 3 x20 y0)
 (.one (.row 23 6 x20)
 (.two (.cmp .eql 3 x16 x14)
 (.two (.cmp .eql 3 x22 x14)
 (.leaf .normal ⟨[],[(0,.row [v0,v1,v2,v3,v4,v5,x0])],1⟩)
 (.leaf (.pan (.iface 162 (.agg [y73,x0]))) ⟨[],[(0,.row [v0,v1,v2,v3,v4,v5,x0])],1⟩))
 (.leaf (.pan (.iface 162 (.agg [y73,x0]))) ⟨[],[(0,.row [v0,v1,v2,v3,v4,v5,x0])],1⟩)))
 (.two (.cmp .eql 3 x16 x14)
 (.two (.cmp .eql 3 x19 x14)
 (.leaf .normal ⟨[],[(0,.row [v0,v1,v2,v3,v4,v5,x0])],1⟩)
 (.leaf (.pan (.iface 162 (.agg [y73,x0]))) ⟨[],[(0,.row [v0,v1,v2,v3,v4,v5,x0])],1⟩))
 (.leaf (.pan (.iface 162 (.agg [y73,x0]))) ⟨[],[(0,.row [v0,v1,v2,v3,v4,v5,x0])],1⟩)))
 .no
 .no)
 (.two (.cmp .eql 3 x16 x14)
 (.two (.cmp .eql 3 x19 x14)
 (.leaf .normal ⟨[],[(0,.row [v0,v1,v2,v3,v4,v5,x0])],1⟩)
 (.leaf (.pan (.iface 162 (.agg [y73,x0]))) ⟨[],[(0,.row [v0,v1,v2,v3,v4,v5,x0])],1⟩))
 (.leaf (.pan (.iface 162 (.agg [y73,x0]))) ⟨[],[(0,.row [v0,v1,v2,v3,v4,v5,x0])],1⟩)))
 .no)))
 .no
 .no)
 (.two (.eqa .eql 49 [x9,x10] [(ss []),(ss [])])
 (.two (.cmp .eql 3 x16 x14)
 (.call 11 [x11,x12,x14] [] []
 (.leaf (.pan (.iface 162 (.agg [y73,x0]))) ⟨[],[(0,.row [v0,v1,v2,v3,v4,v5,x0])],1⟩)
 (.leaf .normal ⟨[],[(0,.row [v0,v1,v2,v3,v4,v5,x0])],1⟩)
 .no)
 (.leaf (.pan (.iface 162 (.agg [y73,x0]))) ⟨[],[(0,.row [v0,v1,v2,v3,v4,v5,x0])],1⟩))
 (.call 10 [x9,x10] [0,1,2,3,4,5] []
 (.two (.scmp .eql 9 x9 (ss []))
 (.call 9 [x10] [6] []
 (.two (.cmp .geq 3 x17 y0)
 (.one (.row 23 6 x17)
 (.two (.cmp .eql 3 x16 x14)
 (.two (.cmp .eql 3 x19 x14)
 (.leaf .normal ⟨[],[(0,.row [v0,v1,v2,v3,v4,v5,x0])],1⟩)
 (.leaf (.pan (.iface 162 (.agg [y73,x0]))) ⟨[],[(0,.row [v0,v1,v2,v3,v4,v5,x0])],1⟩))
 (.leaf (.pan (.iface 162 (.agg [y73,x0]))) ⟨[],[(0,.row [v0,v1,v2,v3,v4,v5,x0])],1⟩)))
 (.leaf (.pan (.iface 162 (.agg [y72,x0]))) ⟨[],[(0,.row [v0,v1,v2,v3,v4,v5,x0])],1⟩))
 .no
 .no)
 (.leaf (.pan (.iface 162 (.agg [y72,x0]))) ⟨[],[(0,.row [v0,v1,v2,v3,v4,v5,x0])],1⟩))
 (.two (.scmp .eql 9 x9 (ss []))
 (.call 9 [x10] [6] []
 (.two (.cmp .geq 3 x19 y0)
 (.one (.row 23 6 x19)
 (.two (.cmp .eql 3 x16 x14)
 (.two (.cmp .eql 3 x21 x14)
 (.leaf .normal ⟨[],[(0,.row [v0,v1,v2,v3,v4,v5,x0])],1⟩)
 (.leaf (.pan (.iface 162 (.agg [y73,x0]))) ⟨[],[(0,.row [v0,v1,v2,v3,v4,v5,x0])],1⟩))
 (.leaf (.pan (.iface 162 (.agg [y73,x0]))) ⟨[],[(0,.row [v0,v1,v2,v3,v4,v5,x0])],1⟩)))
 (.two (.cmp .eql 3 x16 x14)
 (.two (.cmp .eql 3 x18 x14)
 (.leaf .normal ⟨[],[(0,.row [v0,v1,v2,v3,v4,v5,x0])],1⟩)
 (.leaf (.pan (.iface 162 (.agg [y73,x0]))) ⟨[],[(0,.row [v0,v1,v2,v3,v4,v5,x0])],1⟩))
 (.leaf (.pan (.iface 162 (.agg [y73,x0]))) ⟨[],[(0,.row [v0,v1,v2,v3,v4,v5,x0])],1⟩)))
 .no
 .no)
 (.two (.cmp .eql 3 x16 x14)
 (.two (.cmp .eql 3 x18 x14)
 (.leaf .normal ⟨[],[(0,.row [v0,v1,v2,v3,v4,v5,x0])],1⟩)
 (.leaf (.pan (.iface 162 (.agg [y73,x0]))) ⟨[],[(0,.row [v0,v1,v2,v3,v4,v5,x0])],1⟩))
 (.leaf (.pan (.iface 162 (.agg [y73,x0]))) ⟨[],[(0,.row [v0,v1,v2,v3,v4,v5,x0])],1⟩)))
 .no)))
 .no))
 .no)
 (.two (.eqa .eql 172 [x9,x10,x11,x12] [(ss []),(ss []),(nk .u64 0),(nk .u64 0)])
 (.call 10 [x2,x3] [0,1,2,3,4,5] []
 (.leaf (.pan (.iface 162 (.agg [y72,x0]))) ⟨[],[(0,.row [v0,v1,v2,v3,v4,v5,x0])],1⟩)
 (.two (.eqa .eql 49 [x5,x6] [(ss []),(ss [])])
 (.two (.eqa .eql 49 [x9,x10] [(ss []),(ss [])])
 (.call 11 [x7,x8,x14] [] []
 (.leaf (.pan (.iface 162 (.agg [y73,x0]))) ⟨[],[(0,.row [v0,v1,v2,v3,v4,v5,x0])],1⟩)
 (.call 11 [x11,x12,x14] [] []
 (.leaf (.pan (.iface 162 (.agg [y73,x0]))) ⟨[],[(0,.row [v0,v1,v2,v3,v4,v5,x0])],1⟩)
 (.leaf .normal ⟨[],[(0,.row [v0,v1,v2,v3,v4,v5,x0])],1⟩)
 .no)
 .no)
 (.call 10 [x9,x10] [0,1,2,3,4,5] []
 (.two (.scmp .eql 9 x9 (ss []))
 (.call 9 [x10] [6] []
 (.two (.cmp .geq 3 x15 y0)
 (.one (.row 23 6 x15)
 (.call 11 [x7,x8,x14] [] []
 (.leaf (.pan (.iface 162 (.agg [y73,x0]))) ⟨[],[(0,.row [v0,v1,v2,v3,v4,v5,x0])],1⟩)
 (.two (.cmp .eql 3 x17 x14)
 (.leaf .normal ⟨[],[(0,.row [v0,v1,v2,v3,v4,v5,x0])],1⟩)
 (.leaf (.pan (.iface 162 (.agg [y73,x0]))) ⟨[],[(0,.row [v0,v1,v2,v3,v4,v5,x0])],1⟩))
 .no))
 (.leaf (.pan (.iface 162 (.agg [y72,x0]))) ⟨[],[(0,.row [v0,v1,v2,v3,v4,v5,x0])],1⟩))
 .no
 .no)
 (.leaf (.pan (.iface 162 (.agg [y72,x0]))) ⟨[],[(0,.row [v0,v1,v2,v3,v4,v5,x0])],1⟩))
 (.two (.scmp .eql 9 x9 (ss []))
 (.call 9 [x10] [6] []
 (.two (.cmp .geq 3 x17 y0)
 (.one (.row 23 6 x17)
 (.call 11 [x7,x8,x14] [] []
 (.leaf (.pan (.iface 162 (.agg [y73,x0]))) ⟨[],[(0,.row [v0,v1,v2,v3,v4,v5,x0])],1⟩)
 (.two (.cmp .eql 3 x19 x14)
 (.leaf .normal ⟨[],[(0,.row [v0,v1,v2,v3,v4,v5,x0])],1⟩)
 (.leaf (.pan (.iface 162 (.agg [y73,x0]))) ⟨[],[(0,.row [v0,v1,v2,v3,v4,v5,x0])],1⟩))
 .no))
 (.call 11 [x7,x8,x14] [] []
 (.leaf (.pan (.iface 162 (.agg [y73,x0]))) ⟨[],[(0,.row [v0,v1,v2,v3,v4,v5,x0])],1⟩)
 (.two (.cmp .eql 3 x16 x14)
 (.leaf .normal ⟨[],[(0,.row [v0,v1,v2,v3,v4,v5,x0])],1⟩)
 (.leaf (.pan (.iface 162 (.agg [y73,x0]))) ⟨[],[(0,.row [v0,v1,v2,v3,v4,v5,x0])],1⟩))
 .no))
 .no
 .no)
 (.call 11 [x7,x8,x14] [] []
 (.leaf (.pan (.iface 162 (.agg [y73,x0]))) ⟨[],[(0,.row [v0,v1,v2,v3,v4,v5,x0])],1⟩)
 (.two (.cmp .eql 3 x16 x14)
 (.leaf .normal ⟨[],[(0,.row [v0,v1,v2,v3,v4,v5,x0])],1⟩)
 (.leaf (.pan (.iface 162 (.agg [y73,x0]))) ⟨[],[(0,.row [v0,v1,v2,v3,v4,v5,x0])],1⟩))
 .no))
 .no))
 (.call 10 [x5,x6] [0,1,2,3,4,5] []
 (.two (.scmp .eql 9 x5 (ss []))
 (.call 9 [x6] [6] []
 (.two (.cmp .geq 3 x15 y0)
 (.one (.row 23 6 x15)
 (.two (.eqa .eql 49 [x9,x10] [(ss []),(ss [])])
 (.two (.cmp .eql 3 x17 x14)
 (.call 11 [x11,x12,x14] [] []
 (.leaf (.pan (.iface 162 (.agg [y73,x0]))) ⟨[],[(0,.row [v0,v1,v2,v3,v4,v5,x0])],1⟩)
 (.leaf .normal ⟨[],[(0,.row [v0,v1,v2,v3,v4,v5,x0])],1⟩)
 .no)
 (.leaf (.pan (.iface 162 (.agg [y73,x0]))) ⟨[],[(0,.row [v0,v1,v2,v3,v4,v5,x0])],1⟩))
 (.call 10 [x9,x10] [0,1,2,3,4,5] []
 (.two (.scmp .eql 9 x9 (ss []))
 (.call 9 [x10] [6] []
 (.two (.cmp .geq 3 x18 y0)
 (.one (.row 23 6 x18)
 (.two (.cmp .eql 3 x17 x14)
 (.two (.cmp .eql 3 x20 x14)
 (.leaf .normal ⟨[],[(0,.row [v0,v1,v2,v3,v4,v5,x0])],1⟩)
 (.leaf (.pan (.iface 162 (.agg [y73,x0]))) ⟨[],[(0,.row [v0,v1,v2,v3,v4,v5,x0])],1⟩))
 (.leaf (.pan (.iface 162 (.agg [y73,x0]))) ⟨[],[(0,.row [v0,v1,v2,v3,v4,v5,x0])],1⟩)))
 (.leaf (.pan (.iface 162 (.agg [y72,x0]))) ⟨[],[(0,.row [v0,v1,v2,v3,v4,v5,x0])],1⟩))
 .no
 .no)
 (.leaf (.pan (.iface 162 (.agg [y72,x0]))) ⟨[],[(0,.row [v0,v1,v2,v3,v4,v5,x0])],1⟩))
 (.two (.scmp .eql 9 x9 (ss []))
 (.call 9 [x10] [6] []
 (.two (.cmp .geq 3 x20 y0)
 (.one (.row 23 6 x20)
 (.two (.cmp .eql 3 x17 x14)
 (.two (.cmp .eql 3 x22 x14)
 (.leaf .normal ⟨[],[(0,.row [v0,v1,v2,v3,v4,v5,x0])],1⟩)
 (.leaf (.pan (.iface 162 (.agg [y73,x0]))) ⟨[],[(0,.row [v0,v1,v2,v3,v4,v5,x0])],1⟩))
 (.leaf (.pan (.iface 162 (.agg [y73,x0]))) ⟨[],[(0,.row [v0,v1,v2,v3,v4,v5,x0])],1⟩)))
 (.two (.cmp .eql 3 x17 x14)
 (.two (.cmp .eql 3 x19 x14)
 (.leaf .normal ⟨[],[(0,.row [v0,v1,v2,v3,v4,v5,x0])],1⟩)
 (.leaf (.pan (.iface 162 (.agg [y73,x0]))) ⟨[],[(0,.row [v0,v1,v2,v3,v4,v5,x0])],1⟩))
 (.leaf (.pan (.iface 162 (.agg [y73,x0]))) ⟨[],[(0,.row [v0,v1,v2,v3,v4,v5,x0])],1⟩)))
 .no
 .no)
 (.two (.cmp .eql 3 x17 x14)
 (.two (.cmp .eql 3 x19 x14)
 (.leaf .normal ⟨[],[(0,.row [v0,v1,v2,v3,v4,v5,x0])],1⟩)
 (.leaf (.pan (.iface 162 (.agg [y73,x0]))) ⟨[],[(0,.row [v0,v1,v2,v3,v4,v5,x0])],1⟩))
 (.leaf (.pan (.iface 162 (.agg [y73,x0]))) ⟨[],[(0,.row [v0,v1,v2,v3,v4,v5,x0])],1⟩)))
 .no)))
 (.leaf (.pan (.iface 162 (.agg [y72,x0]))) ⟨[],[(0,.row [v0,v1,v2,v3,v4,v5,x0])],1⟩))
 .no
 .no)
 (.leaf (.pan (.iface 162 (.agg [y72,x0]))) ⟨[],[(0,.row [v0,v1,v2,v3,v4,v5,x0])],1⟩))
 (.two (.scmp .eql 9 x5 (ss []))
 (.call 9 [x6] [6] []
 (.two (.cmp .geq 3 x17 y0)
 (.one (.row 23 6 x17)
 (.two (.eqa .eql 49 [x9,x10] [(ss []),(ss [])])
 (.two (.cmp .eql 3 x19 x14)
 (.call 11 [x11,x12,x14] [] []
 (.leaf (.pan (.iface 162 (.agg [y73,x0]))) ⟨[],[(0,.row [v0,v1,v2,v3,v4,v5,x0])],1⟩)
 (.leaf .normal ⟨[],[(0,.row [v0,v1,v2,v3,v4,v5,x0])],1⟩)
 .no)
 (.leaf (.pan (.iface 162 (.agg [y73,x0]))) ⟨[],[(0,.row [v0,v1,v2,v3,v4,v5,x0])],1⟩))
 (.call 10 [x9,x10] [0,1,2,3,4,5] []
 (.two (.scmp .eql 9 x9 (ss []))
 (.call 9 [x10] [6] []
 (.two (.cmp .geq 3 x20 y0)
 (.one (.row 23 6 x20)
 (.two (.cmp .eql 3 x19 x14)
 (.two (.cmp .eql 3 x22 x14)
 (.leaf .normal ⟨[],[(0,.row [v0,v1,v2,v3,v4,v5,x0])],1⟩)
 (.leaf (.pan (.iface 162 (.agg [y73,x0]))) ⟨[],[(0,.row [v0,v1,v2,v3,v4,v5,x0])],1⟩))
 (.leaf (.pan (.iface 162 (.agg [y73,x0]))) ⟨[],[(0,.row [v0,v1,v2,v3,v4,v5,x0])],1⟩)))
 (.leaf (.pan (.iface 162 (.agg [y72,x0]))) ⟨[],[(0,.row [v0,v1,v2,v3,v4,v5,x0])],1⟩))
 .no
 .no)
 (.leaf (.pan (.iface 162 (.agg [y72,x0]))) ⟨[],[(0,.row [v0,v1,v2,v3,v4,v5,x0])],1⟩))
 (.two (.scmp .eql 9 x9 (ss []))
 (.call 9 [x10] [6] []
 (.two (.cmp .geq 3 x22 y0)
 (.one (.row 23 6 x22)
 (.two (.cmp .eql 3 x19 x14)
 (.two (.cmp .eql 3 x24 x14)
 (.leaf .normal ⟨[],[(0,.row [v0,v1,v2,v3,v4,v5,x0])],1⟩)
 (.leaf (.pan (.iface 162 (.agg [y73,x0]))) ⟨[],[(0,.row [v0,v1,v2,v3,v4,v5,x0])],1⟩))
 (.leaf (.pan (.iface 162 (.agg [y73,x0]))) ⟨[],[(0,.row [v0,v1,v2,v3,v4,v5,x0])],1⟩)))
 (.two (.cmp .eql 3 x19 x14)
 (.two (.cmp .eql 3 x21 x14)
 (.leaf .normal ⟨[],[(0,.row [v0,v1,v2,v3,v4,v5,x0])],1⟩)
 (.leaf (.pan (.iface 162 (.agg [y73,x0]))) ⟨[],[(0,.row [v0,v1,v2,v3,v4,v5,x0])],1⟩))
 (.leaf (.pan (.iface 162 (.agg [y73,x0]))) ⟨[],[(0,.row [v0,v1,v2,v3,v4,v5,x0])],1⟩)))
 .no
 .no)
 (.two (.cmp .eql 3 x19 x14)
 (.two (.cmp .eql 3 x21 x14)
 (.leaf .normal ⟨[],[(0,.row [v0,v1,v2,v3,v4,v5,x0])],1⟩)
 (.leaf (.pan (.iface 162 (.agg [y73,x0]))) ⟨[],[(0,.row [v0,v1,v2,v3,v4,v5,x0])],1⟩))
 (.leaf (.pan (.iface 162 (.agg [y73,x0]))) ⟨[],[(0,.row [v0,v1,v2,v3,v4,v5,x0])],1⟩)))
 .no)))
 (.two (.eqa .eql 49 [x9,x10] [(ss []),(ss [])])
 (.two (.cmp .eql 3 x16 x14)
 (.call 11 [x11,x12,x14] [] []
 (.leaf (.pan (.iface 162 (.agg [y73,x0]))) ⟨[],[(0,.row [v0,v1,v2,v3,v4,v5,x0])],1⟩)
 (.leaf .normal ⟨[],[(0,.row [v0,v1,v2,v3,v4,v5,x0])],1⟩)
 .no)
 (.leaf (.pan (.iface 162 (.agg [y73,x0]))) ⟨[],[(0,.row [v0,v1,v2,v3,v4,v5,x0])],1⟩))
 (.call 10 [x9,x10] [0,1,2,3,4,5] []
 (.two (.scmp .eql 9 x9 (ss []))
 (.call 9 [x10] [6] []
 (.two (.cmp .geq 3 x18 y0)
 (.one (.row 23 6 x18)
 (.two (.cmp .eql 3 x16 x14)
 (.two (.cmp .eql 3 x20 x14)
 (.leaf .normal ⟨[],[(0,.row [v0,v1,v2,v3,v4,v5,x0])],1⟩)
 (.leaf (.pan (.iface 162 (.agg [y73,x0]))) ⟨[],[(0,.row [v0,v1,v2,v3,v4,v5,x0])],1⟩))
 (.leaf (.pan (.iface 162 (.agg [y73,x0]))) ⟨[],[(0,.row [v0,v1,v2,v3,v4,v5,x0])],1⟩)))
 (.leaf (.pan (.iface 162 (.agg [y72,x0]))) ⟨[],[(0,.row [v0,v1,v2,v3,v4,v5,x0])],1⟩))
 .no
 .no)
 (.leaf (.pan (.iface 162 (.agg [y72,x0]))) ⟨[],[(0,.row [v0,v1,v2,v3,v4,v5,x0])],1⟩))
 (.two (.scmp .eql 9 x9 (ss []))
 (.call 9 [x10] [6] []
 (.two (.cmp .geq 3 x20 y0)
 (.one (.row 23 6 x20)
 (.two (.cmp .eql 3 x16 x14)
 (.two (.cmp .eql 3 x22 x14)
 (.leaf .normal ⟨[],[(0,.row [v0,v1,v2,v3,v4,v5,x0])],1⟩)
 (.leaf (.pan (.iface 162 (.agg [y73,x0]))) ⟨[],[(0,.row [v0,v1,v2,v3,v4,v5,x0])],1⟩))
 (.leaf (.pan (.iface 162 (.agg [y73,x0]))) ⟨[],[(0,.row [v0,v1,v2,v3,v4,v5,x0])],1⟩)))
 (.two (.cmp .eql 3 x16 x14)
 (.two (.cmp .eql 3 x19 x14)
 (.leaf .normal ⟨[],[(0,.row [v0,v1,v2,v3,v4,v5,x0])],1⟩)
 (.leaf (.pan (.iface 162 (.agg [y73,x0]))) ⟨[],[(0,.row [v0,v1,v2,v3,v4,v5,x0])],1⟩))
 (.leaf (.pan (.iface 162 (.agg [y73,x0]))) ⟨[],[(0,.row [v0,v1,v2,v3,v4,v5,x0])],1⟩)))
 .no
 .no)
 (.two (.cmp .eql 3 x16 x14)
 (.two (.cmp .eql 3 x19 x14)
 (.leaf .normal ⟨[],[(0,.row [v0,v1,v2,v3,v4,v5,x0])],1⟩)
 (.leaf (.pan (.iface 162 (.agg [y73,x0]))) ⟨[],[(0,.row [v0,v1,v2,v3,v4,v5,x0])],1⟩))
 (.leaf (.pan (.iface 162 (.agg [y73,x0]))) ⟨[],[(0,.row [v0,v1,v2,v3,v4,v5,x0])],1⟩)))
 .no)))
 .no
 .no)
 (.two (.eqa .eql 49 [x9,x10] [(ss []),(ss [])])
 (.two (.cmp .eql 3 x16 x14)
 (.call 11 [x11,x12,x14] [] []
 (.leaf (.pan (.iface 162 (.agg [y73,x0]))) ⟨[],[(0,.row [v0,v1,v2,v3,v4,v5,x0])],1⟩)
 (.leaf .normal ⟨[],[(0,.row [v0,v1,v2,v3,v4,v5,x0])],1⟩)
 .no)
 (.leaf (.pan (.iface 162 (.agg [y73,x0]))) ⟨[],[(0,.row [v0,v1,v2,v3,v4,v5,x0])],1⟩))
 (.call 10 [x9,x10] [0,1,2,3,4,5] []
 (.two (.scmp .eql 9 x9 (ss []))
 (.call 9 [x10] [6] []
 (.two (.cmp .geq 3 x17 y0)
 (.one (.row 23 6 x17)
 (.two (.cmp .eql 3 x16 x14)
 (.two (.cmp .eql 3 x19 x14)
 (.leaf .normal ⟨[],[(0,.row [v0,v1,v2,v3,v4,v5,x0])],1⟩)
 (.leaf (.pan (.iface 162 (.agg [y73,x0]))) ⟨[],[(0,.row [v0,v1,v2,v3,v4,v5,x0])],1⟩))
 (.leaf (.pan (.iface 162 (.agg [y73,x0]))) ⟨[],[(0,.row [v0,v1,v2,v3,v4,v5,x0])],1⟩)))
 (.leaf (.pan (.iface 162 (.agg [y72,x0]))) ⟨[],[(0,.row [v0,v1,v2,v3,v4,v5,x0])],1⟩))
 .no
 .no)
 (.leaf (.pan (.iface 162 (.agg [y72,x0]))) ⟨[],[(0,.row [v0,v1,v2,v3,v4,v5,x0])],1⟩))
 (.two (.scmp .eql 9 x9 (ss []))
 (.call 9 [x10] [6] []
 (.two (.cmp .geq 3 x19 y0)
 (.one (.row 23 6 x19)
 (.two (.cmp .eql 3 x16 x14)
 (.two (.cmp .eql 3 x21 x14)
 (.leaf .normal ⟨[],[(0,.row [v0,v1,v2,v3,v4,v5,x0])],1⟩)
 (.leaf (.pan (.iface 162 (.agg [y73,x0]))) ⟨[],[(0,.row [v0,v1,v2,v3,v4,v5,x0])],1⟩))
 (.leaf (.pan (.iface 162 (.agg [y73,x0]))) ⟨[],[(0,.row [v0,v1,v2,v3,v4,v5,x0])],1⟩)))
 (.two (.cmp .eql 3 x16 x14)
 (.two (.cmp .eql 3 x18 x14)
 (.leaf .normal ⟨[],[(0,.row [v0,v1,v2,v3,v4,v5,x0])],1⟩)
 (.leaf (.pan (.iface 162 (.agg [y73,x0]))) ⟨[],[(0,.row [v0,v1,v2,v3,v4,v5,x0])],1⟩))
 (.leaf (.pan (.iface 162 (.agg [y73,x0]))) ⟨[],[(0,.row [v0,v1,v2,v3,v4,v5,x0])],1⟩)))
 .no
 .no)
 (.two (.cmp .eql 3 x16 x14)
 (.two (.cmp .eql 3 x18 x14)
 (.leaf .normal ⟨[],[(0,.row [v0,v1,v2,v3,v4,v5,x0])],1⟩)
 (.leaf (.pan (.iface 162 (.agg [y73,x0]))) ⟨[],[(0,.row [v0,v1,v2,v3,v4,v5,x0])],1⟩))
 (.leaf (.pan (.iface 162 (.agg [y73,x0]))) ⟨[],[(0,.row [v0,v1,v2,v3,v4,v5,x0])],1⟩)))
 .no)))
 .no))
 .no)
 (.leaf (.pan (.iface 162 (.agg [y75,x0]))) ⟨[],[(0,.row [v0,v1,v2,v3,v4,v5,x0])],1⟩)))
 (.leaf (.pan (.iface 162 (.agg [y75,x0]))) ⟨[],[(0,.row [v0,v1,v2,v3,v4,v5,x0])],1⟩)
 .no)
 (.leaf (.pan (.iface 162 (.agg [y75,x0]))) ⟨[],[(0,.row [v0,v1,v2,v3,v4,v5,x0])],1⟩)
 .no)
 (.leaf (.pan (.iface 162 (.agg [y75,x0]))) ⟨[],[(0,.row [v0,v1,v2,v3,v4,v5,x0])],1⟩))
 (.leaf (.pan (.iface 162 (.agg [y75,x0]))) ⟨[],[(0,.row [v0,v1,v2,v3,v4,v5,x0])],1⟩))
 (.two (.cmp .eql 3 x1 y2)
 (.two (.eqa .eql 196 [x1,x2,x3,x4,x5,x6,x7,x8,x9,x10,x11,x12] [x1,(ss []),(ss []),y0,(ss []),(ss []),(nk .u64 0),(nk .u64 0),(ss []),(ss []),(nk .u64 0),(nk .u64 0)])
 (.two (.cmp .eql 3 x1 y3)
 (.call 6 [x2] [0,1,2,3,4,5] []
 (.two (.cmp .geq 3 x13 y0)
 (.leaf .normal ⟨[],[(0,.row [v0,v1,v2,v3,v4,v5,x0])],1⟩)
 (.leaf (.pan (.iface 162 (.agg [y72,x0]))) ⟨[],[(0,.row [v0,v1,v2,v3,v4,v5,x0])],1⟩))
 .no
 .no)
 (.two (.cmp .eql 3 x1 y4)
 (.call 6 [x2] [0,1,2,3,4,5] []
 (.two (.cmp .geq 3 x13 y0)
 (.leaf .normal ⟨[],[(0,.row [v0,v1,v2,v3,v4,v5,x0])],1⟩)
 (.leaf (.pan (.iface 162 (.agg [y72,x0]))) ⟨[],[(0,.row [v0,v1,v2,v3,v4,v5,x0])],1⟩))
 .no
 .no)
 (.two (.cmp .eql 3 x1 y5)
 (.call 10 [x2,x3] [0,1,2,3,4,5] []
 (.leaf (.pan (.iface 162 (.agg [y72,x0]))) ⟨[],[(0,.row [v0,v1,v2,v3,v4,v5,x0])],1⟩)
 (.two (.scmp .neq 9 x2 (ss [109,101,116,97]))
 (.two (.cmp .eql 3 x14 y16)
 (.leaf .normal ⟨[],[(0,.row [v0,v1,v2,v3,v4,v5,x0])],1⟩)
 (.leaf (.pan (.iface 162 (.agg [y73,x0]))) ⟨[],[(0,.row [v0,v1,v2,v3,v4,v5,x0])],1⟩))
 (.leaf (.pan (.iface 162 (.agg [y72,x0]))) ⟨[],[(0,.row [v0,v1,v2,v3,v4,v5,x0])],1⟩))
 .no)
 (.leaf .normal ⟨[],[(0,.row [v0,v1,v2,v3,v4,v5,x0])],1⟩))))
 (.leaf (.pan (.iface 162 (.agg [y75,x0]))) ⟨[],[(0,.row [v0,v1,v2,v3,v4,v5,x0])],1⟩))
 (.two (.cmp .eql 3 x1 y6)
 (.two (.eqa .eql 196 [x1,x2,x3,x4,x5,x6,x7,x8,x9,x10,x11,x12] [x1,(ss []),(ss []),y0,(ss []),(ss []),(nk .u64 0),(nk .u64 0),(ss []),(ss []),(nk .u64 0),(nk .u64 0)])
 (.two (.cmp .eql 3 x1 y3)
 (.call 6 [x2] [0,1,2,3,4,5] []
 (.two (.cmp .geq 3 x13 y0)
 (.leaf .normal ⟨[],[(0,.row [v0,v1,v2,v3,v4,v5,x0])],1⟩)
 (.leaf (.pan (.iface 162 (.agg [y72,x0]))) ⟨[],[(0,.row [v0,v1,v2,v3,v4,v5,x0])],1⟩))
 .no
 .no)
 (.two (.cmp .eql 3 x1 y4)
 (.call 6 [x2] [0,1,2,3,4,5] []
 (.two (.cmp .geq 3 x13 y0)
 (.leaf .normal ⟨[],[(0,.row [v0,v1,v2,v3,v4,v5,x0])],1⟩)
 (.leaf (.pan (.iface 162 (.agg [y72,x0]))) ⟨[],[(0,.row [v0,v1,v2,v3,v4,v5,x0])],1⟩))
 .no
 .no)
 (.two (.cmp .eql 3 x1 y5)
 (.call 10 [x2,x3] [0,1,2,3,4,5] []
 (.leaf (.pan (.iface 162 (.agg [y72,x0]))) ⟨[],[(0,.row [v0,v1,v2,v3,v4,v5,x0])],1⟩)
 (.two (.scmp .neq 9 x2 (ss [109,101,116,97]))
 (.two (.cmp .eql 3 x14 y16)
 (.leaf .normal ⟨[],[(0,.row [v0,v1,v2,v3,v4,v5,x0])],1⟩)
 (.leaf (.pan (.iface 162 (.agg [y73,x0]))) ⟨[],[(0,.row [v0,v1,v2,v3,v4,v5,x0])],1⟩))
 (.leaf (.pan (.iface 162 (.agg [y72,x0]))) ⟨[],[(0,.row [v0,v1,v2,v3,v4,v5,x0])],1⟩))
 .no)
 (.leaf .normal ⟨[],[(0,.row [v0,v1,v2,v3,v4,v5,x0])],1⟩))))
 (.leaf (.pan (.iface 162 (.agg [y75,x0]))) ⟨[],[(0,.row [v0,v1,v2,v3,v4,v5,x0])],1⟩))
 (.two (.cmp .eql 3 x1 y3)
 (.two (.eqa .eql 196 [x1,x2,x3,x4,x5,x6,x7,x8,x9,x10,x11,x12] [x1,x2,(ss []),y0,(ss []),(ss []),(nk .u64 0),(nk .u64 0),(ss []),(ss []),(nk .u64 0),(nk .u64 0)])
 (.call 6 [x2] [0,1,2,3,4,5] []
 (.two (.cmp .geq 3 x13 y0)
 (.leaf .normal ⟨[],[(0,.row [v0,v1,v2,v3,v4,v5,x0])],1⟩)
 (.leaf (.pan (.iface 162 (.agg [y72,x0]))) ⟨[],[(0,.row [v0,v1,v2,v3,v4,v5,x0])],1⟩))
 .no
 .no)
 (.leaf (.pan (.iface 162 (.agg [y75,x0]))) ⟨[],[(0,.row [v0,v1,v2,v3,v4,v5,x0])],1⟩))
 (.two (.cmp .eql 3 x1 y4)
 (.two (.eqa .eql 196 [x1,x2,x3,x4,x5,x6,x7,x8,x9,x10,x11,x12] [x1,x2,(ss []),y0,(ss []),(ss []),(nk .u64 0),(nk .u64 0),(ss []),(ss []),(nk .u64 0),(nk .u64 0)])
 (.call 6 [x2] [0,1,2,3,4,5] []
 (.two (.cmp .geq 3 x13 y0)
 (.leaf .normal ⟨[],[(0,.row [v0,v1,v2,v3,v4,v5,x0])],1⟩)
 (.leaf (.pan (.iface 162 (.agg [y72,x0]))) ⟨[],[(0,.row [v0,v1,v2,v3,v4,v5,x0])],1⟩))
 .no
 .no)
 (.leaf (.pan (.iface 162 (.agg [y75,x0]))) ⟨[],[(0,.row [v0,v1,v2,v3,v4,v5,x0])],1⟩))
 (.two (.cmp .eql 3 x1 y5)
 (.two (.eqa .eql 196 [x1,x2,x3,x4,x5,x6,x7,x8,x9,x10,x11,x12] [x1,x2,x3,y0,(ss []),(ss []),(nk .u64 0),(nk .u64 0),(ss []),(ss []),(nk .u64 0),(nk .u64 0)])
 (.call 10 [x2,x3] [0,1,2,3,4,5] []
 (.leaf (.pan (.iface 162 (.agg [y72,x0]))) ⟨[],[(0,.row [v0,v1,v2,v3,v4,v5,x0])],1⟩)
 (.two (.scmp .neq 9 x2 (ss [109,101,116,97]))
 (.two (.cmp .eql 3 x14 y16)
 (.leaf .normal ⟨[],[(0,.row [v0,v1,v2,v3,v4,v5,x0])],1⟩)
 (.leaf (.pan (.iface 162 (.agg [y73,x0]))) ⟨[],[(0,.row [v0,v1,v2,v3,v4,v5,x0])],1⟩))
 (.leaf (.pan (.iface 162 (.agg [y72,x0]))) ⟨[],[(0,.row [v0,v1,v2,v3,v4,v5,x0])],1⟩))
 .no)
 (.leaf (.pan (.iface 162 (.agg [y75,x0]))) ⟨[],[(0,.row [v0,v1,v2,v3,v4,v5,x0])],1⟩))
 (.leaf (.pan (.iface 162 (.agg [y75,x0]))) ⟨[],[(0,.row [v0,v1,v2,v3,v4,v5,x0])],1⟩)))))))
def f_step:List Fit:=[⟨0,[y72],[],[]⟩,⟨0,[y73],[],[]⟩,⟨0,[y73],[],[]⟩,⟨1,[],[],[]⟩,⟨0,[y73],[],[]⟩,⟨1,[],[],[]⟩,⟨0,[y73],[],[]⟩,⟨0,[y72],[],[]⟩,⟨0,[y72],[],[]⟩,⟨0,[y73],[],[]⟩,⟨1,[],[],[]⟩,⟨0,[y73],[],[]⟩,⟨0,[y73],[],[]⟩,⟨1,[],[],[]⟩,⟨0,[y73],[],[]⟩,⟨0,[y73],[],[]⟩,⟨1,[],[],[]⟩,⟨0,[y73],[],[]⟩,⟨0,[y73],[],[]⟩,⟨1,[],[],[]⟩,⟨0,[y73],[],[]⟩,⟨1,[],[],[]⟩,⟨0,[y73],[],[]⟩,⟨0,[y73],[],[]⟩,⟨0,[y72],[],[]⟩,⟨0,[y72],[],[]⟩,⟨1,[],[],[]⟩,⟨0,[y73],[],[]⟩,⟨0,[y73],[],[]⟩,⟨1,[],[],[]⟩,⟨0,[y73],[],[]⟩,⟨0,[y73],[],[]⟩,⟨1,[],[],[]⟩,⟨0,[y73],[],[]⟩,⟨0,[y73],[],[]⟩,⟨0,[y72],[],[]⟩,⟨0,[y72],[],[]⟩,⟨0,[y73],[],[]⟩,⟨1,[],[],[]⟩,⟨0,[y73],[],[]⟩,⟨1,[],[],[]⟩,⟨0,[y73],[],[]⟩,⟨0,[y73],[],[]⟩,⟨0,[y72],[],[]⟩,⟨0,[y72],[],[]⟩,⟨1,[],[],[]⟩,⟨0,[y73],[],[]⟩,⟨0,[y73],[],[]⟩,⟨1,[],[],[]⟩,⟨0,[y73],[],[]⟩,⟨0,[y73],[],[]⟩,⟨1,[],[],[]⟩,⟨0,[y73],[],[]⟩,⟨0,[y73],[],[]⟩,⟨0,[y73],[],[]⟩,⟨1,[],[],[]⟩,⟨0,[y73],[],[]⟩,⟨1,[],[],[]⟩,⟨0,[y73],[],[]⟩,⟨0,[y73],[],[]⟩,⟨0,[y72],[],[]⟩,⟨0,[y72],[],[]⟩,⟨1,[],[],[]⟩,⟨0,[y73],[],[]⟩,⟨0,[y73],[],[]⟩,⟨1,[],[],[]⟩,⟨0,[y73],[],[]⟩,⟨0,[y73],[],[]⟩,⟨1,[],[],[]⟩,⟨0,[y73],[],[]⟩,⟨0,[y73],[],[]⟩,⟨0,[y73],[],[]⟩,⟨1,[],[],[]⟩,⟨0,[y73],[],[]⟩,⟨1,[],[],[]⟩,⟨0,[y73],[],[]⟩,⟨0,[y73],[],[]⟩,⟨0,[y72],[],[]⟩,⟨0,[y72],[],[]⟩,⟨1,[],[],[]⟩,⟨0,[y73],[],[]⟩,⟨0,[y73],[],[]⟩,⟨1,[],[],[]⟩,⟨0,[y73],[],[]⟩,⟨0,[y73],[],[]⟩,⟨1,[],[],[]⟩,⟨0,[y73],[],[]⟩,⟨0,[y73],[],[]⟩,⟨0,[y72],[],[]⟩,⟨0,[y73],[],[]⟩,⟨0,[y73],[],[]⟩,⟨1,[],[],[]⟩,⟨0,[y73],[],[]⟩,⟨1,[],[],[]⟩,⟨0,[y73],[],[]⟩,⟨0,[y72],[],[]⟩,⟨0,[y72],[],[]⟩,⟨0,[y73],[],[]⟩,⟨1,[],[],[]⟩,⟨0,[y73],[],[]⟩,⟨0,[y73],[],[]⟩,⟨1,[],[],[]⟩,⟨0,[y73],[],[]⟩,⟨0,[y73],[],[]⟩,⟨1,[],[],[]⟩,⟨0,[y73],[],[]⟩,⟨0,[y73],[],[]⟩,⟨1,[],[],[]⟩,⟨0,[y73],[],[]⟩,⟨1,[],[],[]⟩,⟨0,[y73],[],[]⟩,⟨0,[y73],[],[]⟩,⟨0,[y72],[],[]⟩,⟨0,[y72],[],[]⟩,⟨1,[],[],[]⟩,⟨0,[y73],[],[]⟩,⟨0,[y73],[],[]⟩,⟨1,[],[],[]⟩,⟨0,[y73],[],[]⟩,⟨0,[y73],[],[]⟩,⟨1,[],[],[]⟩,⟨0,[y73],[],[]⟩,⟨0,[y73],[],[]⟩,⟨0,[y72],[],[]⟩,⟨0,[y72],[],[]⟩,⟨0,[y73],[],[]⟩,⟨1,[],[],[]⟩,⟨0,[y73],[],[]⟩,⟨1,[],[],[]⟩,⟨0,[y73],[],[]⟩,⟨0,[y73],[],[]⟩,⟨0,[y72],[],[]⟩,⟨0,[y72],[],[]⟩,⟨1,[],[],[]⟩,⟨0,[y73],[],[]⟩,⟨0,[y73],[],[]⟩,⟨1,[],[],[]⟩,⟨0,[y73],[],[]⟩,⟨0,[y73],[],[]⟩,⟨1,[],[],[]⟩,⟨0,[y73],[],[]⟩,⟨0,[y73],[],[]⟩,⟨0,[y73],[],[]⟩,⟨1,[],[],[]⟩,⟨0,[y73],[],[]⟩,⟨1,[],[],[]⟩,⟨0,[y73],[],[]⟩,⟨0,[y73],[],[]⟩,⟨0,[y72],[],[]⟩,⟨0,[y72],[],[]⟩,⟨1,[],[],[]⟩,⟨0,[y73],[],[]⟩,⟨0,[y73],[],[]⟩,⟨1,[],[],[]⟩,⟨0,[y73],[],[]⟩,⟨0,[y73],[],[]⟩,⟨1,[],[],[]⟩,⟨0,[y73],[],[]⟩,⟨0,[y73],[],[]⟩,⟨0,[y73],[],[]⟩,⟨1,[],[],[]⟩,⟨0,[y73],[],[]⟩,⟨1,[],[],[]⟩,⟨0,[y73],[],[]⟩,⟨0,[y73],[],[]⟩,⟨0,[y72],[],[]⟩,⟨0,[y72],[],[]⟩,⟨1,[],[],[]⟩,⟨0,[y73],[],[]⟩,⟨0,[y73],[],[]⟩,⟨1,[],[],[]⟩,⟨0,[y73],[],[]⟩,⟨0,[y73],[],[]⟩,⟨1,[],[],[]⟩,⟨0,[y73],[],[]⟩,⟨0,[y73],[],[]⟩,⟨0,[y75],[],[]⟩,⟨0,[y75],[],[]⟩,⟨0,[y75],[],[]⟩,⟨0,[y75],[],[]⟩,⟨0,[y75],[],[]⟩,⟨1,[],[],[]⟩,⟨0,[y72],[],[]⟩,⟨1,[],[],[]⟩,⟨0,[y72],[],[]⟩,⟨0,[y72],[],[]⟩,⟨1,[],[],[]⟩,⟨0,[y73],[],[]⟩,⟨0,[y72],[],[]⟩,⟨1,[],[],[]⟩,⟨0,[y75],[],[]⟩,⟨1,[],[],[]⟩,⟨0,[y72],[],[]⟩,⟨1,[],[],[]⟩,⟨0,[y72],[],[]⟩,⟨0,[y72],[],[]⟩,⟨1,[],[],[]⟩,⟨0,[y73],[],[]⟩,⟨0,[y72],[],[]⟩,⟨1,[],[],[]⟩,⟨0,[y75],[],[]⟩,⟨1,[],[],[]⟩,⟨0,[y72],[],[]⟩,⟨0,[y75],[],[]⟩,⟨1,[],[],[]⟩,⟨0,[y72],[],[]⟩,⟨0,[y75],[],[]⟩,⟨0,[y72],[],[]⟩,⟨1,[],[],[]⟩,⟨0,[y73],[],[]⟩,⟨0,[y72],[],[]⟩,⟨0,[y75],[],[]⟩,⟨0,[y75],[],[]⟩]
def C_stepP:Con:=C_step
def p_step:List Con:=[C_ixHP,C_ixAP,C_ixTP,C_ixFP,C_ixKP,C_ixSP,C_headerAtP,C_actionAtP,C_tableAtP,C_fieldAtP,C_fieldOfP,C_fitsP,C_plainP,C_containsP,C_isNameP,C_nameP,C_fieldsP,C_headersP,C_WidthP,C_KindP,C_CallP]
def L_step:Nat->Prop:=Lf C_step p_step t_step [] false
def C_actions:Con:=⟨98,[.str 1048640],[0,1,2,3,4,5],0,[(.ptr 0 0)],[(0,.row [v0,v1,v2,v3,v4,v5,x0])],1,[],[⟨[.nat,.str 1048583],[],0,[.cmp .geq x1 y0 true,.cmp .geq x1 y1 true,.cmp .leq x1 y128 true],(.pan (.iface 162 (.agg [x1,x2]))),[(0,.row [v0,v1,v2,v3,v4,v5,x2])],1⟩,
 ⟨[.str 1048640],[],0,[],(.ret (.tup [])),[(0,.row [v0,v1,v2,v3,v4,v5,x1])],1⟩]⟩
def t_actions:Tree:=(.one (.len 25 3)
 (.two (.cmp .leq 3 x1 y64)
 (.rule 4 [] [2] []
 (.rule 28 [] [2] []
 (.rule 36 [] [4] []
 (.loop ⟨[1,1,1,1,0],⟨[(0,(.ptr 0 0)),(2,(.map 1)),(24,v3),(25,x1),(26,x2)],[(0,.row [v0,v1,v2,v3,v4,v5,x3]),(1,.mu 0)],2⟩,[(2,y0),(3,(ss [97,99,116,105,111,110]))],[(2,.nat),(3,.str 1048640)],[(0,(.lit [] 0))],[(0,true)],2,x1,[],[],[],2,[]⟩
 (.two (.cmp .lss 3 x2 x1)
 (.one (.row 25 3 x2)
 (.one (.cat 9 (ss [97,99,116,105,111,110,32]) x4)
 (.call 15 [x5,x4] [0,1,2,3,4,5] [0]
 (.brk (.pan (.iface 162 (.agg [x6,x5]))) ⟨[],[(0,.row [v0,v1,v2,v3,v4,v5,x5])],2⟩ []
 (.leaf (.pan (.iface 162 (.agg [x6,x5]))) ⟨[],[(0,.row [v0,v1,v2,v3,v4,v5,x5])],1⟩))
 (.one (.len 23 6)
 (.two (.cmp .leq 3 x6 y8)
 (.one (.len 90 7)
 (.two (.cmp .leq 3 x7 y32)
 (.call 16 [x5] [0,1,2,3,4,5,6] []
 (.brk (.pan (.iface 162 (.agg [x8,x5]))) ⟨[],[(0,.row [v0,v1,v2,v3,v4,v5,x5])],2⟩ []
 (.leaf (.pan (.iface 162 (.agg [x8,x5]))) ⟨[],[(0,.row [v0,v1,v2,v3,v4,v5,x5])],1⟩))
 (.loop ⟨[1,1,1,1,0,0,1,1,0,0,1,1,1,1,1,1,0],⟨[(0,(.ptr 0 0)),(2,(.map 1)),(4,(.ptr 2 0)),(24,v3),(25,x1),(26,x2),(47,(.ptr 2 2)),(48,v7),(49,x7),(50,tt),(58,v7),(59,x7),(60,x8)],[(0,.row [v0,v1,v2,v3,v4,v5,x5]),(1,.mu 1),(2,.row [x4,v6,v7])],3⟩,[(8,y0)],[(8,.nat)],[],[],8,x7,[],[],[],3,[]⟩
 (.two (.cmp .lss 3 x8 x7)
 (.one (.row 90 7 x8)
 (.call 21 [x5,x9,x10,x11,x12,x13,x14,x15,x16,x17,x18,x19,x20] [0,1,2,3,4,5,6] []
 (.brk (.pan (.iface 162 (.agg [x21,x5]))) ⟨[(0,(.ptr 0 0)),(2,(.map 1)),(24,v3),(25,x1),(26,x2),(47,(.ptr 2 2)),(48,v7),(49,x7),(50,tt)],[(0,.row [v0,v1,v2,v3,v4,v5,x5]),(1,.mu 1),(2,.row [x4,v6,v7])],3⟩ []
 (.brk (.pan (.iface 162 (.agg [x21,x5]))) ⟨[],[(0,.row [v0,v1,v2,v3,v4,v5,x5])],2⟩ []
 (.leaf (.pan (.iface 162 (.agg [x21,x5]))) ⟨[],[(0,.row [v0,v1,v2,v3,v4,v5,x5])],1⟩)))
 (.one (.inc 3 x8 x7)
 (.again [(8,x21)] [] [] []))
 .no))
 (.brk (.exit 2) ⟨[(0,(.ptr 0 0)),(2,(.map 1)),(24,v3),(25,x1),(26,x2),(47,(.ptr 2 2)),(48,v7),(49,x7),(50,tt)],[(0,.row [v0,v1,v2,v3,v4,v5,x5]),(1,.mu 1),(2,.row [x4,v6,v7])],3⟩ []
 (.one (.inc 3 x2 x1)
 (.again [(2,x9),(3,x5)] [(0,(.nm 1))] [] [])))))
 .no)
 (.brk (.pan (.iface 162 (.agg [y74,x5]))) ⟨[],[(0,.row [v0,v1,v2,v3,v4,v5,x5])],2⟩ []
 (.leaf (.pan (.iface 162 (.agg [y74,x5]))) ⟨[],[(0,.row [v0,v1,v2,v3,v4,v5,x5])],1⟩))))
 (.brk (.pan (.iface 162 (.agg [y74,x5]))) ⟨[],[(0,.row [v0,v1,v2,v3,v4,v5,x5])],2⟩ []
 (.leaf (.pan (.iface 162 (.agg [y74,x5]))) ⟨[],[(0,.row [v0,v1,v2,v3,v4,v5,x5])],1⟩))))
 .no)))
 (.brk (.exit 0) ⟨[],[(0,.row [v0,v1,v2,v3,v4,v5,x3])],2⟩ []
 (.leaf .normal ⟨[],[(0,.row [v0,v1,v2,v3,v4,v5,x3])],1⟩))))
 .no)
 .no)
 .no)
 (.leaf (.pan (.iface 162 (.agg [y74,(ss [97,99,116,105,111,110])]))) ⟨[],[(0,.row [v0,v1,v2,v3,v4,v5,(ss [97,99,116,105,111,110])])],1⟩)))
def f_actions:List Fit:=[⟨0,[x6,x5],[],[]⟩,⟨0,[x8,x5],[],[]⟩,⟨0,[x21,x5],[],[]⟩,⟨0,[y74,x5],[],[]⟩,⟨0,[y74,x5],[],[]⟩,⟨1,[x3],[],[]⟩,⟨0,[y74,(ss [97,99,116,105,111,110])],[],[]⟩]
def C_actionsP:Con:=C_actions
def p_actions:List Con:=[C_ixHP,C_ixAP,C_ixTP,C_ixFP,C_ixKP,C_ixSP,C_headerAtP,C_actionAtP,C_tableAtP,C_fieldAtP,C_fieldOfP,C_fitsP,C_plainP,C_containsP,C_isNameP,C_nameP,C_fieldsP,C_headersP,C_WidthP,C_KindP,C_CallP,C_stepP]
def L_actions:Nat->Prop:=Lf C_actions p_actions t_actions [] false
def C_tables:Con:=⟨99,[.str 1048640],[0,1,2,3,4,5],0,[(.ptr 0 0)],[(0,.row [v0,v1,v2,v3,v4,v5,x0])],1,[],[⟨[.nat,.str 1048582],[],0,[.cmp .geq x1 y0 true,.cmp .geq x1 y1 true,.cmp .leq x1 y128 true],(.pan (.iface 162 (.agg [x1,x2]))),[(0,.row [v0,v1,v2,v3,v4,v5,x2])],1⟩,
 ⟨[.str 1048640],[],0,[.cus 14 [] [4] []],(.ret (.tup [])),[(0,.row [v0,v1,v2,v3,v4,v5,x1])],1⟩]⟩
def t_tables:Tree:=(.one (.len 26 4)
 (.two (.cmp .leq 3 x1 y32)
 (.rule 4 [] [2] []
 (.rule 28 [] [2] []
 (.rule 36 [] [4] []
 (.loop ⟨[1,1,1,1,0],⟨[(0,(.ptr 0 0)),(2,(.map 1)),(31,v4),(32,x1),(33,x2)],[(0,.row [v0,v1,v2,v3,v4,v5,x3]),(1,.mu 0)],2⟩,[(2,y0),(3,(ss [116,97,98,108,101]))],[(2,.nat),(3,.str 1048640)],[(0,(.lit [] 0))],[(0,true)],2,x1,[],[],[.cus 13 [x2] [4] []],2,[]⟩
 (.two (.cmp .lss 3 x2 x1)
 (.one (.row 26 4 x2)
 (.one (.cat 9 (ss [116,97,98,108,101,32]) x4)
 (.call 15 [x8,x4] [0,1,2,3,4,5] [0]
 (.brk (.pan (.iface 162 (.agg [x9,x8]))) ⟨[],[(0,.row [v0,v1,v2,v3,v4,v5,x8])],2⟩ []
 (.leaf (.pan (.iface 162 (.agg [x9,x8]))) ⟨[],[(0,.row [v0,v1,v2,v3,v4,v5,x8])],1⟩))
 (.one (.len 34 6)
 (.two (.cmp .gtr 3 x9 y0)
 (.two (.cmp .leq 3 x9 y8)
 (.rule 40 [] [] []
 (.rule 31 [] [6] []
 (.loop ⟨[1,1,1,1,0,0,1,1,0,0,1,1,1,1,1,0,1,0],⟨[(0,(.ptr 0 0)),(2,(.map 1)),(4,(.ptr 2 0)),(5,x10),(31,v4),(32,x1),(33,x2),(54,(.ptr 2 1)),(55,v6),(56,x9),(57,tt),(61,v6),(62,x9),(63,x11)],[(0,.row [v0,v1,v2,v3,v4,v5,x8]),(1,.mu 1),(2,.row [x4,v6,v7,x5,x6,v8,x7])],3⟩,[(10,y0),(11,y0)],[(10,.nat),(11,.nat)],[],[],11,x9,[],[],[.cus 11 [x11,x10] [6] [],.cus 15 [x10,x10] [] [],.cus 15 [x11,x11] [] []],3,[]⟩
 (.two (.cmp .lss 3 x11 x9)
 (.one (.row 34 6 x11)
 (.call 10 [x12,x13] [0,1,2,3,4,5] []
 (.brk (.pan (.iface 162 (.agg [y72,x8]))) ⟨[(0,(.ptr 0 0)),(2,(.map 1)),(4,(.ptr 2 0)),(31,v4),(32,x1),(33,x2),(54,(.ptr 2 1)),(55,v6),(56,x9),(57,tt)],[(0,.row [v0,v1,v2,v3,v4,v5,x8]),(1,.mu 1),(2,.row [x4,v6,v7,x5,x6,v8,x7])],3⟩ []
 (.brk (.pan (.iface 162 (.agg [y72,x8]))) ⟨[],[(0,.row [v0,v1,v2,v3,v4,v5,x8])],2⟩ []
 (.leaf (.pan (.iface 162 (.agg [y72,x8]))) ⟨[],[(0,.row [v0,v1,v2,v3,v4,v5,x8])],1⟩)))
 (.two (.cmp .geq 3 x14 y1)
 (.two (.cmp .leq 3 x14 y4)
 (.two (.cmp .eql 3 x14 y2)
 (.rule 35 [x11,x10] [6] []
 (.one (.inc 3 x10 x17)
 (.two (.cmp .eql 3 x18 y1)
 (.call 19 [x4,x5,x6,x7] [6,7,8] []
 (.two (.cmp .eql 3 x19 y2)
 (.one (.inc 3 x11 x9)
 (.rule 33 [x11,x10,x12,x13,x14,x20,x18] [6] []
 (.rule 41 [x10,x10,x18,x18] [] []
 (.rule 41 [x11,x11,x20,x20] [] []
 (.again [(10,x18),(11,x20)] [] [] [])
 .no)
 .no)
 .no))
 (.brk (.pan (.iface 162 (.agg [y75,x8]))) ⟨[(0,(.ptr 0 0)),(2,(.map 1)),(4,(.ptr 2 0)),(31,v4),(32,x1),(33,x2),(54,(.ptr 2 1)),(55,v6),(56,x9),(57,tt),(85,(.ptr 3 2)),(86,x14),(87,tt),(99,(.agg [x4,v6,v7,x5,x6,v8,x7])),(100,x19),(101,ff)],[(0,.row [v0,v1,v2,v3,v4,v5,x8]),(1,.mu 1),(2,.row [x4,v6,v7,x5,x6,v8,x7]),(3,.row [x12,x13,x14])],20⟩ []
 (.brk (.pan (.iface 162 (.agg [y75,x8]))) ⟨[],[(0,.row [v0,v1,v2,v3,v4,v5,x8])],2⟩ []
 (.leaf (.pan (.iface 162 (.agg [y75,x8]))) ⟨[],[(0,.row [v0,v1,v2,v3,v4,v5,x8])],1⟩))))
 .no
 .no)
 (.brk (.pan (.iface 162 (.agg [y75,x8]))) ⟨[(0,(.ptr 0 0)),(2,(.map 1)),(4,(.ptr 2 0)),(31,v4),(32,x1),(33,x2),(54,(.ptr 2 1)),(55,v6),(56,x9),(57,tt),(85,(.ptr 3 2)),(86,x14),(87,tt),(99,(.tup [])),(100,(.tup [])),(101,(.tup []))],[(0,.row [v0,v1,v2,v3,v4,v5,x8]),(1,.mu 1),(2,.row [x4,v6,v7,x5,x6,v8,x7]),(3,.row [x12,x13,x14])],20⟩ []
 (.brk (.pan (.iface 162 (.agg [y75,x8]))) ⟨[],[(0,.row [v0,v1,v2,v3,v4,v5,x8])],2⟩ []
 (.leaf (.pan (.iface 162 (.agg [y75,x8]))) ⟨[],[(0,.row [v0,v1,v2,v3,v4,v5,x8])],1⟩)))))
 .no)
 (.one (.inc 3 x11 x9)
 (.rule 32 [x11,x10,x12,x13,x14,x17] [6] []
 (.rule 41 [x11,x11,x17,x17] [] []
 (.again [(10,x10),(11,x17)] [] [] [])
 .no)
 .no)))
 (.brk (.pan (.iface 162 (.agg [y75,x8]))) ⟨[(0,(.ptr 0 0)),(2,(.map 1)),(4,(.ptr 2 0)),(31,v4),(32,x1),(33,x2),(54,(.ptr 2 1)),(55,v6),(56,x9),(57,tt),(85,(.ptr 3 2)),(86,x14),(87,ff)],[(0,.row [v0,v1,v2,v3,v4,v5,x8]),(1,.mu 1),(2,.row [x4,v6,v7,x5,x6,v8,x7]),(3,.row [x12,x13,x14])],20⟩ []
 (.brk (.pan (.iface 162 (.agg [y75,x8]))) ⟨[],[(0,.row [v0,v1,v2,v3,v4,v5,x8])],2⟩ []
 (.leaf (.pan (.iface 162 (.agg [y75,x8]))) ⟨[],[(0,.row [v0,v1,v2,v3,v4,v5,x8])],1⟩))))
 (.brk (.pan (.iface 162 (.agg [y75,x8]))) ⟨[(0,(.ptr 0 0)),(2,(.map 1)),(4,(.ptr 2 0)),(31,v4),(32,x1),(33,x2),(54,(.ptr 2 1)),(55,v6),(56,x9),(57,tt),(85,(.tup [])),(86,(.tup [])),(87,(.tup []))],[(0,.row [v0,v1,v2,v3,v4,v5,x8]),(1,.mu 1),(2,.row [x4,v6,v7,x5,x6,v8,x7])],3⟩ []
 (.brk (.pan (.iface 162 (.agg [y75,x8]))) ⟨[],[(0,.row [v0,v1,v2,v3,v4,v5,x8])],2⟩ []
 (.leaf (.pan (.iface 162 (.agg [y75,x8]))) ⟨[],[(0,.row [v0,v1,v2,v3,v4,v5,x8])],1⟩))))
 .no))
 (.brk (.exit 2) ⟨[(0,(.ptr 0 0)),(2,(.map 1)),(4,(.ptr 2 0)),(31,v4),(32,x1),(33,x2),(54,(.ptr 2 1)),(55,v6),(56,x9),(57,tt)],[(0,.row [v0,v1,v2,v3,v4,v5,x8]),(1,.mu 1),(2,.row [x4,v6,v7,x5,x6,v8,x7])],3⟩ []
 (.one (.len 35 7)
 (.two (.cmp .gtr 3 x12 y0)
 (.two (.cmp .leq 3 x12 y64)
 (.loop ⟨[1,1,1,1,0,0,1,1,0,0,1,1,1,1,1,1,1,1,0,1,0],⟨[(0,(.ptr 0 0)),(2,(.map 1)),(4,(.ptr 2 0)),(10,(.map 3)),(31,v4),(32,x1),(33,x2),(54,(.ptr 2 1)),(55,v6),(56,x9),(57,tt),(111,(.ptr 2 2)),(112,v7),(113,x12),(114,tt),(119,v7),(120,x12),(121,x13)],[(0,.row [v0,v1,v2,v3,v4,v5,x8]),(1,.mu 1),(2,.row [x4,v6,v7,x5,x6,v8,x7]),(3,.mu 2)],4⟩,[(13,y0)],[(13,.nat)],[(2,(.lit [] 0))],[(2,true)],13,x12,[],[],[.cus 15 [x13,x13] [] []],4,[]⟩
 (.two (.cmp .lss 3 x13 x12)
 (.one (.row 35 7 x13)
 (.call 7 [x14] [0,1,2,3,4,5] []
 (.two (.cmp .geq 3 x15 y0)
 (.one (.look 169 2 x14)
 (.two (.cmp .eql 3 x16 y0)
 (.one (.upd 169 2 x14 y1)
 (.one (.inc 3 x13 x12)
 (.rule 41 [x13,x13,x17,x17] [] []
 (.again [(13,x17)] [(2,(.nm 3))] [] [])
 .no)))
 (.brk (.pan (.iface 162 (.agg [y71,x8]))) ⟨[(0,(.ptr 0 0)),(2,(.map 1)),(4,(.ptr 2 0)),(31,v4),(32,x1),(33,x2),(54,(.ptr 2 1)),(55,v6),(56,x9),(57,tt),(111,(.ptr 2 2)),(112,v7),(113,x12),(114,tt)],[(0,.row [v0,v1,v2,v3,v4,v5,x8]),(1,.mu 1),(2,.row [x4,v6,v7,x5,x6,v8,x7])],4⟩ []
 (.brk (.pan (.iface 162 (.agg [y71,x8]))) ⟨[],[(0,.row [v0,v1,v2,v3,v4,v5,x8])],2⟩ []
 (.leaf (.pan (.iface 162 (.agg [y71,x8]))) ⟨[],[(0,.row [v0,v1,v2,v3,v4,v5,x8])],1⟩)))))
 (.brk (.pan (.iface 162 (.agg [y72,x8]))) ⟨[(0,(.ptr 0 0)),(2,(.map 1)),(4,(.ptr 2 0)),(31,v4),(32,x1),(33,x2),(54,(.ptr 2 1)),(55,v6),(56,x9),(57,tt),(111,(.ptr 2 2)),(112,v7),(113,x12),(114,tt)],[(0,.row [v0,v1,v2,v3,v4,v5,x8]),(1,.mu 1),(2,.row [x4,v6,v7,x5,x6,v8,x7])],4⟩ []
 (.brk (.pan (.iface 162 (.agg [y72,x8]))) ⟨[],[(0,.row [v0,v1,v2,v3,v4,v5,x8])],2⟩ []
 (.leaf (.pan (.iface 162 (.agg [y72,x8]))) ⟨[],[(0,.row [v0,v1,v2,v3,v4,v5,x8])],1⟩))))
 .no
 .no))
 (.brk (.exit 4) ⟨[(0,(.ptr 0 0)),(2,(.map 1)),(4,(.ptr 2 0)),(31,v4),(32,x1),(33,x2),(54,(.ptr 2 1)),(55,v6),(56,x9),(57,tt),(111,(.ptr 2 2)),(112,v7),(113,x12),(114,tt)],[(0,.row [v0,v1,v2,v3,v4,v5,x8]),(1,.mu 1),(2,.row [x4,v6,v7,x5,x6,v8,x7])],4⟩ []
 (.two (.cmp .geq 3 x5 y1)
 (.two (.cmp .leq 3 x5 (nn 4096))
 (.call 20 [x4,x6] [0,1,2,3,4,5,8] []
 (.two (.cmp .neq 60 x14 y0)
 (.brk (.pan (.iface 162 (.agg [x14,x8]))) ⟨[],[(0,.row [v0,v1,v2,v3,v4,v5,x8])],2⟩ []
 (.rule 39 [x14] [] []
 (.leaf (.pan (.iface 162 (.agg [x14,x8]))) ⟨[],[(0,.row [v0,v1,v2,v3,v4,v5,x8])],1⟩)
 .no))
 (.one (.inc 3 x2 x1)
 (.rule 34 [x11,x10,x9] [6] []
 (.rule 37 [x2,x4,x5,x6,x7,x15] [4,6,7,8] []
 (.again [(2,x15),(3,x8)] [(0,(.nm 1))] [] [])
 .no)
 .no)))
 .no
 .no)
 (.brk (.pan (.iface 162 (.agg [y74,x8]))) ⟨[],[(0,.row [v0,v1,v2,v3,v4,v5,x8])],2⟩ []
 (.leaf (.pan (.iface 162 (.agg [y74,x8]))) ⟨[],[(0,.row [v0,v1,v2,v3,v4,v5,x8])],1⟩)))
 (.brk (.pan (.iface 162 (.agg [y74,x8]))) ⟨[],[(0,.row [v0,v1,v2,v3,v4,v5,x8])],2⟩ []
 (.leaf (.pan (.iface 162 (.agg [y74,x8]))) ⟨[],[(0,.row [v0,v1,v2,v3,v4,v5,x8])],1⟩))))))
 (.brk (.pan (.iface 162 (.agg [y74,x8]))) ⟨[],[(0,.row [v0,v1,v2,v3,v4,v5,x8])],2⟩ []
 (.leaf (.pan (.iface 162 (.agg [y74,x8]))) ⟨[],[(0,.row [v0,v1,v2,v3,v4,v5,x8])],1⟩)))
 (.brk (.pan (.iface 162 (.agg [y74,x8]))) ⟨[],[(0,.row [v0,v1,v2,v3,v4,v5,x8])],2⟩ []
 (.leaf (.pan (.iface 162 (.agg [y74,x8]))) ⟨[],[(0,.row [v0,v1,v2,v3,v4,v5,x8])],1⟩)))))))
 .no)
 .no)
 (.brk (.pan (.iface 162 (.agg [y74,x8]))) ⟨[],[(0,.row [v0,v1,v2,v3,v4,v5,x8])],2⟩ []
 (.leaf (.pan (.iface 162 (.agg [y74,x8]))) ⟨[],[(0,.row [v0,v1,v2,v3,v4,v5,x8])],1⟩)))
 (.brk (.pan (.iface 162 (.agg [y74,x8]))) ⟨[],[(0,.row [v0,v1,v2,v3,v4,v5,x8])],2⟩ []
 (.leaf (.pan (.iface 162 (.agg [y74,x8]))) ⟨[],[(0,.row [v0,v1,v2,v3,v4,v5,x8])],1⟩))))
 .no)))
 (.brk (.exit 0) ⟨[],[(0,.row [v0,v1,v2,v3,v4,v5,x3])],2⟩ []
 (.rule 38 [x2,x1] [4] []
 (.leaf .normal ⟨[],[(0,.row [v0,v1,v2,v3,v4,v5,x3])],1⟩)
 .no))))
 .no)
 .no)
 .no)
 (.leaf (.pan (.iface 162 (.agg [y74,(ss [116,97,98,108,101])]))) ⟨[],[(0,.row [v0,v1,v2,v3,v4,v5,(ss [116,97,98,108,101])])],1⟩)))
def f_tables:List Fit:=[⟨0,[x9,x8],[],[]⟩,⟨0,[y72,x8],[],[]⟩,⟨0,[y75,x8],[],[]⟩,⟨0,[y75,x8],[],[]⟩,⟨0,[y75,x8],[],[]⟩,⟨0,[y75,x8],[],[]⟩,⟨0,[y71,x8],[],[]⟩,⟨0,[y72,x8],[],[]⟩,⟨0,[x14,x8],[],[]⟩,⟨0,[y74,x8],[],[]⟩,⟨0,[y74,x8],[],[]⟩,⟨0,[y74,x8],[],[]⟩,⟨0,[y74,x8],[],[]⟩,⟨0,[y74,x8],[],[]⟩,⟨0,[y74,x8],[],[]⟩,⟨1,[x3],[],[]⟩,⟨0,[y74,(ss [116,97,98,108,101])],[],[]⟩]
def C_tablesP:Con:=C_tables
def p_tables:List Con:=[C_ixHP,C_ixAP,C_ixTP,C_ixFP,C_ixKP,C_ixSP,C_headerAtP,C_actionAtP,C_tableAtP,C_fieldAtP,C_fieldOfP,C_fitsP,C_plainP,C_containsP,C_isNameP,C_nameP,C_fieldsP,C_headersP,C_WidthP,C_KindP,C_CallP,C_stepP,C_actionsP]
def L_tables:Nat->Prop:=Lf C_tables p_tables t_tables [] false
def C_test:Con:=⟨153,[.str 1048640,.int .i64,.str 1048576,.str 1048576,.int .u64,.int .u64,.str 1048576,.str 1048576,.int .u64,.int .u64],[0,1,2,3,4,5],0,[(.ptr 0 0),(.agg [x1,x2,x3,x4,x5,x6,x7,x8,x9])],[(0,.row [v0,v1,v2,v3,v4,v5,x0])],1,[],[⟨[],[],0,[],(.ret (.tup [])),[(0,.row [v0,v1,v2,v3,v4,v5,x0])],1⟩,
 ⟨[.nat],[],0,[.cmp .geq x10 y0 true,.cmp .geq x10 y1 true,.cmp .leq x10 y128 true],(.pan (.iface 162 (.agg [x10,x0]))),[(0,.row [v0,v1,v2,v3,v4,v5,x0])],1⟩]⟩
def t_test:Tree:=(.two (.cmp .eql 3 x1 y1)
 (.two (.eqa .eql 174 [x1,x2,x3,x4,x5,x6,x7,x8,x9] [x1,x2,(ss []),(nk .u64 0),(nk .u64 0),(ss []),(ss []),(nk .u64 0),(nk .u64 0)])
 (.call 6 [x2] [0,1,2,3,4,5] []
 (.two (.cmp .geq 3 x10 y0)
 (.leaf .ret ⟨[],[(0,.row [v0,v1,v2,v3,v4,v5,x0])],1⟩)
 (.leaf (.pan (.iface 162 (.agg [y72,x0]))) ⟨[],[(0,.row [v0,v1,v2,v3,v4,v5,x0])],1⟩))
 .no
 .no)
 (.leaf (.pan (.iface 162 (.agg [y75,x0]))) ⟨[],[(0,.row [v0,v1,v2,v3,v4,v5,x0])],1⟩))
 (.two (.cmp .geq 3 x1 y2)
 (.two (.cmp .leq 3 x1 y5)
 (.call 12 [x2,x3,x4,x5] [] []
 (.call 12 [x6,x7,x8,x9] [] []
 (.two (.eqa .eql 49 [x2,x3] [(ss []),(ss [])])
 (.two (.eqa .eql 49 [x6,x7] [(ss []),(ss [])])
 (.call 10 [x2,x3] [0,1,2,3,4,5] []
 (.call 10 [x6,x7] [0,1,2,3,4,5] []
 (.leaf (.pan (.iface 162 (.agg [y73,x0]))) ⟨[],[(0,.row [v0,v1,v2,v3,v4,v5,x0])],1⟩)
 (.call 11 [x4,x5,x11] [] []
 (.leaf (.pan (.iface 162 (.agg [y73,x0]))) ⟨[],[(0,.row [v0,v1,v2,v3,v4,v5,x0])],1⟩)
 (.leaf .normal ⟨[],[(0,.row [v0,v1,v2,v3,v4,v5,x0])],1⟩)
 .no)
 .no)
 (.call 10 [x6,x7] [0,1,2,3,4,5] []
 (.call 11 [x8,x9,x11] [] []
 (.leaf (.pan (.iface 162 (.agg [y73,x0]))) ⟨[],[(0,.row [v0,v1,v2,v3,v4,v5,x0])],1⟩)
 (.leaf .normal ⟨[],[(0,.row [v0,v1,v2,v3,v4,v5,x0])],1⟩)
 .no)
 (.call 11 [x8,x9,x11] [] []
 (.leaf (.pan (.iface 162 (.agg [y73,x0]))) ⟨[],[(0,.row [v0,v1,v2,v3,v4,v5,x0])],1⟩)
 (.leaf .normal ⟨[],[(0,.row [v0,v1,v2,v3,v4,v5,x0])],1⟩)
 .no)
 .no)
 .no)
 (.call 10 [x6,x7] [0,1,2,3,4,5] []
 (.two (.scmp .eql 9 x6 (ss []))
 (.leaf (.pan (.iface 162 (.agg [y72,x0]))) ⟨[],[(0,.row [v0,v1,v2,v3,v4,v5,x0])],1⟩)
 (.leaf (.pan (.iface 162 (.agg [y72,x0]))) ⟨[],[(0,.row [v0,v1,v2,v3,v4,v5,x0])],1⟩))
 (.two (.scmp .eql 9 x6 (ss []))
 (.call 10 [x2,x3] [0,1,2,3,4,5] []
 (.call 11 [x4,x5,x11] [] []
 (.leaf (.pan (.iface 162 (.agg [y73,x0]))) ⟨[],[(0,.row [v0,v1,v2,v3,v4,v5,x0])],1⟩)
 (.leaf .normal ⟨[],[(0,.row [v0,v1,v2,v3,v4,v5,x0])],1⟩)
 .no)
 (.two (.cmp .eql 3 x11 x13)
 (.leaf .normal ⟨[],[(0,.row [v0,v1,v2,v3,v4,v5,x0])],1⟩)
 (.leaf (.pan (.iface 162 (.agg [y73,x0]))) ⟨[],[(0,.row [v0,v1,v2,v3,v4,v5,x0])],1⟩))
 .no)
 (.call 10 [x2,x3] [0,1,2,3,4,5] []
 (.call 11 [x4,x5,x11] [] []
 (.leaf (.pan (.iface 162 (.agg [y73,x0]))) ⟨[],[(0,.row [v0,v1,v2,v3,v4,v5,x0])],1⟩)
 (.leaf .normal ⟨[],[(0,.row [v0,v1,v2,v3,v4,v5,x0])],1⟩)
 .no)
 (.two (.cmp .eql 3 x11 x13)
 (.leaf .normal ⟨[],[(0,.row [v0,v1,v2,v3,v4,v5,x0])],1⟩)
 (.leaf (.pan (.iface 162 (.agg [y73,x0]))) ⟨[],[(0,.row [v0,v1,v2,v3,v4,v5,x0])],1⟩))
 .no))
 .no))
 (.call 10 [x2,x3] [0,1,2,3,4,5] []
 (.two (.scmp .eql 9 x2 (ss []))
 (.leaf (.pan (.iface 162 (.agg [y72,x0]))) ⟨[],[(0,.row [v0,v1,v2,v3,v4,v5,x0])],1⟩)
 (.leaf (.pan (.iface 162 (.agg [y72,x0]))) ⟨[],[(0,.row [v0,v1,v2,v3,v4,v5,x0])],1⟩))
 (.two (.scmp .eql 9 x2 (ss []))
 (.two (.eqa .eql 49 [x6,x7] [(ss []),(ss [])])
 (.call 10 [x6,x7] [0,1,2,3,4,5] []
 (.call 11 [x8,x9,x11] [] []
 (.leaf (.pan (.iface 162 (.agg [y73,x0]))) ⟨[],[(0,.row [v0,v1,v2,v3,v4,v5,x0])],1⟩)
 (.leaf .normal ⟨[],[(0,.row [v0,v1,v2,v3,v4,v5,x0])],1⟩)
 .no)
 (.call 11 [x8,x9,x11] [] []
 (.leaf (.pan (.iface 162 (.agg [y73,x0]))) ⟨[],[(0,.row [v0,v1,v2,v3,v4,v5,x0])],1⟩)
 (.leaf .normal ⟨[],[(0,.row [v0,v1,v2,v3,v4,v5,x0])],1⟩)
 .no)
 .no)
 (.call 10 [x6,x7] [0,1,2,3,4,5] []
 (.two (.scmp .eql 9 x6 (ss []))
 (.leaf (.pan (.iface 162 (.agg [y72,x0]))) ⟨[],[(0,.row [v0,v1,v2,v3,v4,v5,x0])],1⟩)
 (.leaf (.pan (.iface 162 (.agg [y72,x0]))) ⟨[],[(0,.row [v0,v1,v2,v3,v4,v5,x0])],1⟩))
 (.two (.scmp .eql 9 x6 (ss []))
 (.two (.cmp .eql 3 x13 x11)
 (.leaf .normal ⟨[],[(0,.row [v0,v1,v2,v3,v4,v5,x0])],1⟩)
 (.leaf (.pan (.iface 162 (.agg [y73,x0]))) ⟨[],[(0,.row [v0,v1,v2,v3,v4,v5,x0])],1⟩))
 (.two (.cmp .eql 3 x13 x11)
 (.leaf .normal ⟨[],[(0,.row [v0,v1,v2,v3,v4,v5,x0])],1⟩)
 (.leaf (.pan (.iface 162 (.agg [y73,x0]))) ⟨[],[(0,.row [v0,v1,v2,v3,v4,v5,x0])],1⟩)))
 .no))
 (.two (.eqa .eql 49 [x6,x7] [(ss []),(ss [])])
 (.call 10 [x6,x7] [0,1,2,3,4,5] []
 (.call 11 [x8,x9,x11] [] []
 (.leaf (.pan (.iface 162 (.agg [y73,x0]))) ⟨[],[(0,.row [v0,v1,v2,v3,v4,v5,x0])],1⟩)
 (.leaf .normal ⟨[],[(0,.row [v0,v1,v2,v3,v4,v5,x0])],1⟩)
 .no)
 (.call 11 [x8,x9,x11] [] []
 (.leaf (.pan (.iface 162 (.agg [y73,x0]))) ⟨[],[(0,.row [v0,v1,v2,v3,v4,v5,x0])],1⟩)
 (.leaf .normal ⟨[],[(0,.row [v0,v1,v2,v3,v4,v5,x0])],1⟩)
 .no)
 .no)
 (.call 10 [x6,x7] [0,1,2,3,4,5] []
 (.two (.scmp .eql 9 x6 (ss []))
 (.leaf (.pan (.iface 162 (.agg [y72,x0]))) ⟨[],[(0,.row [v0,v1,v2,v3,v4,v5,x0])],1⟩)
 (.leaf (.pan (.iface 162 (.agg [y72,x0]))) ⟨[],[(0,.row [v0,v1,v2,v3,v4,v5,x0])],1⟩))
 (.two (.scmp .eql 9 x6 (ss []))
 (.two (.cmp .eql 3 x13 x11)
 (.leaf .normal ⟨[],[(0,.row [v0,v1,v2,v3,v4,v5,x0])],1⟩)
 (.leaf (.pan (.iface 162 (.agg [y73,x0]))) ⟨[],[(0,.row [v0,v1,v2,v3,v4,v5,x0])],1⟩))
 (.two (.cmp .eql 3 x13 x11)
 (.leaf .normal ⟨[],[(0,.row [v0,v1,v2,v3,v4,v5,x0])],1⟩)
 (.leaf (.pan (.iface 162 (.agg [y73,x0]))) ⟨[],[(0,.row [v0,v1,v2,v3,v4,v5,x0])],1⟩)))
 .no)))
 .no))
 (.leaf (.pan (.iface 162 (.agg [y75,x0]))) ⟨[],[(0,.row [v0,v1,v2,v3,v4,v5,x0])],1⟩)
 .no)
 (.leaf (.pan (.iface 162 (.agg [y75,x0]))) ⟨[],[(0,.row [v0,v1,v2,v3,v4,v5,x0])],1⟩)
 .no)
 (.leaf (.pan (.iface 162 (.agg [y75,x0]))) ⟨[],[(0,.row [v0,v1,v2,v3,v4,v5,x0])],1⟩))
 (.leaf (.pan (.iface 162 (.agg [y75,x0]))) ⟨[],[(0,.row [v0,v1,v2,v3,v4,v5,x0])],1⟩)))
def f_test:List Fit:=[⟨0,[],[],[]⟩,⟨1,[y72],[],[]⟩,⟨1,[y75],[],[]⟩,⟨1,[y73],[],[]⟩,⟨1,[y73],[],[]⟩,⟨0,[],[],[]⟩,⟨1,[y73],[],[]⟩,⟨0,[],[],[]⟩,⟨1,[y73],[],[]⟩,⟨0,[],[],[]⟩,⟨1,[y72],[],[]⟩,⟨1,[y72],[],[]⟩,⟨1,[y73],[],[]⟩,⟨0,[],[],[]⟩,⟨0,[],[],[]⟩,⟨1,[y73],[],[]⟩,⟨1,[y73],[],[]⟩,⟨0,[],[],[]⟩,⟨0,[],[],[]⟩,⟨1,[y73],[],[]⟩,⟨1,[y72],[],[]⟩,⟨1,[y72],[],[]⟩,⟨1,[y73],[],[]⟩,⟨0,[],[],[]⟩,⟨1,[y73],[],[]⟩,⟨0,[],[],[]⟩,⟨1,[y72],[],[]⟩,⟨1,[y72],[],[]⟩,⟨0,[],[],[]⟩,⟨1,[y73],[],[]⟩,⟨0,[],[],[]⟩,⟨1,[y73],[],[]⟩,⟨1,[y73],[],[]⟩,⟨0,[],[],[]⟩,⟨1,[y73],[],[]⟩,⟨0,[],[],[]⟩,⟨1,[y72],[],[]⟩,⟨1,[y72],[],[]⟩,⟨0,[],[],[]⟩,⟨1,[y73],[],[]⟩,⟨0,[],[],[]⟩,⟨1,[y73],[],[]⟩,⟨1,[y75],[],[]⟩,⟨1,[y75],[],[]⟩,⟨1,[y75],[],[]⟩,⟨1,[y75],[],[]⟩]
def C_testP:Con:=C_test
def p_test:List Con:=[C_ixHP,C_ixAP,C_ixTP,C_ixFP,C_ixKP,C_ixSP,C_headerAtP,C_actionAtP,C_tableAtP,C_fieldAtP,C_fieldOfP,C_fitsP,C_plainP,C_containsP,C_isNameP,C_nameP,C_fieldsP,C_headersP,C_WidthP,C_KindP,C_CallP,C_stepP,C_actionsP,C_tablesP]
def L_test:Nat->Prop:=Lf C_test p_test t_test [] false
def C_stage:Con:=⟨103,[.str 1048640,.int .i64,.str 1048576,.int .i64,.str 1048576,.str 1048576,.int .u64,.int .u64,.str 1048576,.str 1048576,.int .u64,.int .u64],[0,1,2,3,4,5,5,5],1,[(.ptr 0 0),(.agg [x1,x2,x3,x4,x5,x6,x7,x8,x9,x10,x11,v6,v7]),(.map 1)],[(0,.row [v0,v1,v2,v3,v4,v5,x0]),(1,.mu 0)],2,[.mk 0 true],[⟨[],[],1,[.mk 1 true],(.ret (.tup [])),[(0,.row [v0,v1,v2,v3,v4,v5,x0]),(1,.mu 1)],2⟩,
 ⟨[.nat],[],1,[.cmp .geq x12 y0 true,.cmp .geq x12 y1 true,.cmp .leq x12 y128 true,.mk 1 true],(.pan (.iface 162 (.agg [x12,x0]))),[(0,.row [v0,v1,v2,v3,v4,v5,x0]),(1,.mu 1)],2⟩]⟩
def t_stage:Tree:=(.two (.cmp .eql 3 x1 y1)
 (.two (.eqa .eql 174 [x3,x4,x5,x6,x7,x8,x9,x10,x11] [y0,(ss []),(ss []),(nk .u64 0),(nk .u64 0),(ss []),(ss []),(nk .u64 0),(nk .u64 0)])
 (.call 8 [x2] [0,1,2,3,4,5] []
 (.two (.cmp .geq 3 x12 y0)
 (.one (.look 169 0 x2)
 (.two (.cmp .eql 3 x13 y0)
 (.one (.upd 169 0 x2 y1)
 (.leaf .normal ⟨[],[(0,.row [v0,v1,v2,v3,v4,v5,x0]),(1,.mu 1)],2⟩))
 (.leaf (.pan (.iface 162 (.agg [y71,x0]))) ⟨[],[(0,.row [v0,v1,v2,v3,v4,v5,x0]),(1,.mu 0)],2⟩)))
 (.leaf (.pan (.iface 162 (.agg [y72,x0]))) ⟨[],[(0,.row [v0,v1,v2,v3,v4,v5,x0]),(1,.mu 0)],2⟩))
 .no
 .no)
 (.leaf (.pan (.iface 162 (.agg [y75,x0]))) ⟨[],[(0,.row [v0,v1,v2,v3,v4,v5,x0]),(1,.mu 0)],2⟩))
 (.two (.cmp .eql 3 x1 y3)
 (.two (.eqa .eql 174 [x3,x4,x5,x6,x7,x8,x9,x10,x11] [y0,(ss []),(ss []),(nk .u64 0),(nk .u64 0),(ss []),(ss []),(nk .u64 0),(nk .u64 0)])
 (.two (.scmp .eql 9 x2 (ss []))
 (.one (.len 27 6)
 (.one (.len 27 7)
 (.one (.ari .add 3 x12 x13)
 (.two (.cmp .eql 3 x14 y0)
 (.leaf .normal ⟨[],[(0,.row [v0,v1,v2,v3,v4,v5,x0]),(1,.mu 0)],2⟩)
 (.leaf (.pan (.iface 162 (.agg [y75,x0]))) ⟨[],[(0,.row [v0,v1,v2,v3,v4,v5,x0]),(1,.mu 0)],2⟩)))))
 (.leaf (.pan (.iface 162 (.agg [y75,x0]))) ⟨[],[(0,.row [v0,v1,v2,v3,v4,v5,x0]),(1,.mu 0)],2⟩))
 (.leaf (.pan (.iface 162 (.agg [y75,x0]))) ⟨[],[(0,.row [v0,v1,v2,v3,v4,v5,x0]),(1,.mu 0)],2⟩))
 (.two (.cmp .eql 3 x1 y2)
 (.two (.scmp .eql 9 x2 (ss []))
 (.call 24 [x0,x3,x4,x5,x6,x7,x8,x9,x10,x11] [0,1,2,3,4,5] []
 (.leaf .normal ⟨[],[(0,.row [v0,v1,v2,v3,v4,v5,x0]),(1,.mu 0)],2⟩)
 (.leaf (.pan (.iface 162 (.agg [x12,x0]))) ⟨[],[(0,.row [v0,v1,v2,v3,v4,v5,x0]),(1,.mu 0)],2⟩)
 .no)
 (.leaf (.pan (.iface 162 (.agg [y75,x0]))) ⟨[],[(0,.row [v0,v1,v2,v3,v4,v5,x0]),(1,.mu 0)],2⟩))
 (.leaf (.pan (.iface 162 (.agg [y75,x0]))) ⟨[],[(0,.row [v0,v1,v2,v3,v4,v5,x0]),(1,.mu 0)],2⟩))))
def f_stage:List Fit:=[⟨0,[],[],[1]⟩,⟨1,[y71],[],[0]⟩,⟨1,[y72],[],[0]⟩,⟨1,[y75],[],[0]⟩,⟨0,[],[],[0]⟩,⟨1,[y75],[],[0]⟩,⟨1,[y75],[],[0]⟩,⟨1,[y75],[],[0]⟩,⟨0,[],[],[0]⟩,⟨1,[x12],[],[0]⟩,⟨1,[y75],[],[0]⟩,⟨1,[y75],[],[0]⟩]
def C_stageP:Con:=C_stage
def p_stage:List Con:=[C_ixHP,C_ixAP,C_ixTP,C_ixFP,C_ixKP,C_ixSP,C_headerAtP,C_actionAtP,C_tableAtP,C_fieldAtP,C_fieldOfP,C_fitsP,C_plainP,C_containsP,C_isNameP,C_nameP,C_fieldsP,C_headersP,C_WidthP,C_KindP,C_CallP,C_stepP,C_actionsP,C_tablesP,C_testP]
def L_stage:Nat->Prop:=Lf C_stage p_stage t_stage [] false
def C_walkTT:Con:=⟨101,[.int .i64,.int .i64],[5],0,[v0,x0,(.fn (.func 152) [] [(.ptr 0 0),(.ptr 1 0)])],[(0,.row [x1]),(1,.row [tt])],2,[],[⟨[.int .i64],[],0,[.cmp .geq x2 y0 true,.cmp .geq x2 y1 true],(.ret ff),[(0,.row [x2]),(1,.row [.junk])],2⟩,
 ⟨[.int .i64],[],0,[],(.ret tt),[(0,.row [x2]),(1,.row [tt])],2⟩]⟩
def t_walkTT:Tree:=(.one (.len 27 0)
 (.loop ⟨[1,0,1,0],⟨[(1,x0),(2,(.fn (.func 152) [] [(.ptr 0 0),(.ptr 1 0)])),(6,ff),(9,v0),(10,x2),(11,x3)],[(0,.row [x4]),(1,.row [tt])],2⟩,[(3,y0),(4,x1)],[(3,.nat),(4,.int .i64)],[],[],3,x2,[],[],[],2,[]⟩
 (.two (.cmp .lss 3 x3 x2)
 (.one (.row 27 0 x3)
 (.one (.ari .add 3 x4 y1)
 (.two (.cmp .leq 3 x16 y128)
 (.one (.ari .add 3 x0 y1)
 (.rule 1 [x3,x5,x6,x7,x8,x9,x10,x11,x12,x13,x14,x15] [0,1,2] []
 (.call 26 [x17,x16] [1] []
 (.brk .ret ⟨[(6,ff)],[(0,.row [x18]),(1,.row [.junk])],2⟩ []
 (.leaf .ret ⟨[(6,ff)],[(0,.row [x18]),(1,.row [.junk])],2⟩))
 (.call 26 [x17,x18] [2] []
 (.brk .ret ⟨[(6,ff)],[(0,.row [x19]),(1,.row [.junk])],2⟩ []
 (.leaf .ret ⟨[(6,ff)],[(0,.row [x19]),(1,.row [.junk])],2⟩))
 (.one (.inc 3 x3 x2)
 (.again [(3,x20),(4,x19)] [] [] []))
 .no)
 .no)
 .no))
 (.brk .ret ⟨[(6,ff)],[(0,.row [x16]),(1,.row [tt])],2⟩ []
 (.leaf .ret ⟨[(6,ff)],[(0,.row [x16]),(1,.row [.junk])],2⟩)))))
 (.brk (.exit 0) ⟨[(6,ff)],[(0,.row [x4]),(1,.row [tt])],2⟩ []
 (.leaf .ret ⟨[(6,tt)],[(0,.row [x4]),(1,.row [tt])],2⟩)))))
def f_walkTT:List Fit:=[⟨0,[x18],[],[]⟩,⟨0,[x19],[],[]⟩,⟨0,[x16],[],[]⟩,⟨1,[x4],[],[]⟩]
def C_walkTTP:Con:=C_walkTT
def p_walkTT:List Con:=[C_ixHP,C_ixAP,C_ixTP,C_ixFP,C_ixKP,C_ixSP,C_headerAtP,C_actionAtP,C_tableAtP,C_fieldAtP,C_fieldOfP,C_fitsP,C_plainP,C_containsP,C_isNameP,C_nameP,C_fieldsP,C_headersP,C_WidthP,C_KindP,C_CallP,C_stepP,C_actionsP,C_tablesP,C_testP,C_stageP]
def L_walkTT:Nat->Prop:=Lf (C_walkTT.withR (.cus 0 [] [0] [])) (p_walkTT++[C_walkTT.withR (.cus 1 [] [0] [])]) t_walkTT [] false
def C_walkTF:Con:=⟨101,[.int .i64,.int .i64],[5],0,[v0,x0,(.fn (.func 152) [] [(.ptr 0 0),(.ptr 1 0)])],[(0,.row [x1]),(1,.row [ff])],2,[],[⟨[.int .i64],[],0,[.cmp .geq x2 y0 true,.cmp .geq x2 y1 true],(.ret ff),[(0,.row [x2]),(1,.row [.junk])],2⟩,
 ⟨[.int .i64],[],0,[],(.ret tt),[(0,.row [x2]),(1,.row [tt])],2⟩,
 ⟨[.int .i64],[],0,[],(.ret tt),[(0,.row [x2]),(1,.row [ff])],2⟩]⟩
def t_walkTF:Tree:=(.one (.len 27 0)
 (.loop ⟨[1,0,1,0],⟨[(1,x0),(2,(.fn (.func 152) [] [(.ptr 0 0),(.ptr 1 0)])),(6,ff),(9,v0),(10,x2),(11,x3)],[(0,.row [x4]),(1,.row [x5])],2⟩,[(3,y0),(4,x1),(5,ff)],[(3,.nat),(4,.int .i64),(5,.boo)],[],[],3,x2,[],[],[],2,[]⟩
 (.two (.cmp .lss 3 x3 x2)
 (.one (.row 27 0 x3)
 (.one (.ari .add 3 x4 y1)
 (.two (.tf x5)
 (.two (.cmp .leq 3 x17 y128)
 (.one (.ari .add 3 x0 y1)
 (.call 26 [x18,x17] [1] []
 (.brk .ret ⟨[(6,ff)],[(0,.row [x19]),(1,.row [.junk])],2⟩ []
 (.leaf .ret ⟨[(6,ff)],[(0,.row [x19]),(1,.row [.junk])],2⟩))
 (.call 26 [x18,x19] [2] []
 (.brk .ret ⟨[(6,ff)],[(0,.row [x20]),(1,.row [.junk])],2⟩ []
 (.leaf .ret ⟨[(6,ff)],[(0,.row [x20]),(1,.row [.junk])],2⟩))
 (.one (.inc 3 x3 x2)
 (.again [(3,x21),(4,x20),(5,tt)] [] [] []))
 .no)
 .no))
 (.brk .ret ⟨[(6,ff)],[(0,.row [x17]),(1,.row [tt])],2⟩ []
 (.leaf .ret ⟨[(6,ff)],[(0,.row [x17]),(1,.row [.junk])],2⟩)))
 (.two (.cmp .gtr 3 x0 y8)
 (.two (.cmp .leq 3 x17 y128)
 (.one (.ari .add 3 x0 y1)
 (.call 26 [x18,x17] [1] []
 (.brk .ret ⟨[(6,ff)],[(0,.row [x19]),(1,.row [.junk])],2⟩ []
 (.leaf .ret ⟨[(6,ff)],[(0,.row [x19]),(1,.row [.junk])],2⟩))
 (.call 26 [x18,x19] [2] []
 (.brk .ret ⟨[(6,ff)],[(0,.row [x20]),(1,.row [.junk])],2⟩ []
 (.leaf .ret ⟨[(6,ff)],[(0,.row [x20]),(1,.row [.junk])],2⟩))
 (.one (.inc 3 x3 x2)
 (.again [(3,x21),(4,x20),(5,tt)] [] [] []))
 .no)
 .no))
 (.brk .ret ⟨[(6,ff)],[(0,.row [x17]),(1,.row [tt])],2⟩ []
 (.leaf .ret ⟨[(6,ff)],[(0,.row [x17]),(1,.row [.junk])],2⟩)))
 (.two (.cmp .leq 3 x17 y128)
 (.one (.ari .add 3 x0 y1)
 (.rule 1 [x3,x6,x7,x8,x9,x10,x11,x12,x13,x14,x15,x16] [0,1,2] []
 (.call 27 [x18,x17] [1] []
 (.brk .ret ⟨[(6,ff)],[(0,.row [x19]),(1,.row [.junk])],2⟩ []
 (.leaf .ret ⟨[(6,ff)],[(0,.row [x19]),(1,.row [.junk])],2⟩))
 (.call 26 [x18,x19] [2] []
 (.brk .ret ⟨[(6,ff)],[(0,.row [x20]),(1,.row [.junk])],2⟩ []
 (.leaf .ret ⟨[(6,ff)],[(0,.row [x20]),(1,.row [.junk])],2⟩))
 (.one (.inc 3 x3 x2)
 (.again [(3,x21),(4,x20),(5,tt)] [] [] []))
 .no)
 (.call 27 [x18,x19] [2] []
 (.brk .ret ⟨[(6,ff)],[(0,.row [x20]),(1,.row [.junk])],2⟩ []
 (.leaf .ret ⟨[(6,ff)],[(0,.row [x20]),(1,.row [.junk])],2⟩))
 (.one (.inc 3 x3 x2)
 (.again [(3,x21),(4,x20),(5,tt)] [] [] []))
 (.one (.inc 3 x3 x2)
 (.again [(3,x21),(4,x20),(5,ff)] [] [] []))))
 .no))
 (.brk .ret ⟨[(6,ff)],[(0,.row [x17]),(1,.row [ff])],2⟩ []
 (.leaf .ret ⟨[(6,ff)],[(0,.row [x17]),(1,.row [.junk])],2⟩)))))))
 (.brk (.exit 0) ⟨[(6,ff)],[(0,.row [x4]),(1,.row [x5])],2⟩ []
 (.two (.tf x5)
 (.leaf .ret ⟨[(6,tt)],[(0,.row [x4]),(1,.row [tt])],2⟩)
 (.leaf .ret ⟨[(6,tt)],[(0,.row [x4]),(1,.row [ff])],2⟩))))))
def f_walkTF:List Fit:=[⟨0,[x19],[],[]⟩,⟨0,[x20],[],[]⟩,⟨0,[x17],[],[]⟩,⟨0,[x19],[],[]⟩,⟨0,[x20],[],[]⟩,⟨0,[x17],[],[]⟩,⟨0,[x19],[],[]⟩,⟨0,[x20],[],[]⟩,⟨0,[x20],[],[]⟩,⟨0,[x17],[],[]⟩,⟨1,[x4],[],[]⟩,⟨2,[x4],[],[]⟩]
def C_walkTFP:Con:=C_walkTF
def p_walkTF:List Con:=[C_ixHP,C_ixAP,C_ixTP,C_ixFP,C_ixKP,C_ixSP,C_headerAtP,C_actionAtP,C_tableAtP,C_fieldAtP,C_fieldOfP,C_fitsP,C_plainP,C_containsP,C_isNameP,C_nameP,C_fieldsP,C_headersP,C_WidthP,C_KindP,C_CallP,C_stepP,C_actionsP,C_tablesP,C_testP,C_stageP,C_walkTTP]
def L_walkTF:Nat->Prop:=Lf (C_walkTF.withR (.cus 0 [] [0] [])) (p_walkTF++[C_walkTF.withR (.cus 1 [] [0] [])]) t_walkTF [] false
def C_tall:Con:=⟨100,[],[0,1,2,3,4,5],0,[(.agg [v0,v1,v2,v3,v4,v5])],[],0,[],[⟨[.nat],[],0,[.cmp .geq x0 y0 true,.cmp .leq x0 y128 true],(.ret x0),[],0⟩]⟩
def t_tall:Tree:=(.call 27 [y1,y0] [5] []
 (.leaf .ret ⟨[(2,y74)],[],0⟩)
 (.leaf .ret ⟨[(2,y77)],[],0⟩)
 (.leaf .ret ⟨[(2,y0)],[],0⟩))
def f_tall:List Fit:=[⟨0,[y74],[],[]⟩,⟨0,[y77],[],[]⟩,⟨0,[y0],[],[]⟩]
def C_tallP:Con:=C_tall
def p_tall:List Con:=[C_ixHP,C_ixAP,C_ixTP,C_ixFP,C_ixKP,C_ixSP,C_headerAtP,C_actionAtP,C_tableAtP,C_fieldAtP,C_fieldOfP,C_fitsP,C_plainP,C_containsP,C_isNameP,C_nameP,C_fieldsP,C_headersP,C_WidthP,C_KindP,C_CallP,C_stepP,C_actionsP,C_tablesP,C_testP,C_stageP,C_walkTTP,C_walkTFP]
def L_tall:Nat->Prop:=Lf C_tall p_tall t_tall [] false
def C_walkS:Con:=⟨101,[.int .i64,.str 1048640],[5,0,1,2,3,4,5],1,[v0,x0,(.fn (.func 102) [] [(.ptr 0 0),(.ptr 1 0)])],[(0,.row [v1,v2,v3,v4,v5,v6,x1]),(1,.row [(.map 2)]),(2,.mu 0)],3,[.mk 0 true],[⟨[.nat],[],1,[.cmp .geq x2 y0 true,.cmp .geq x2 y1 true,.cmp .leq x2 y128 true,.mk 1 true],(.pan (.iface 162 (.agg [x2,x1]))),[(0,.row [v1,v2,v3,v4,v5,v6,x1]),(1,.row [(.map 2)]),(2,.mu 1)],3⟩,
 ⟨[],[],1,[.mk 1 true],(.ret tt),[(0,.row [v1,v2,v3,v4,v5,v6,x1]),(1,.row [(.map 2)]),(2,.mu 1)],3⟩]⟩
def t_walkS:Tree:=(.one (.len 27 0)
 (.rule 28 [] [3] []
 (.rule 36 [] [5] []
 (.loop ⟨[1,0,1,0],⟨[(1,x0),(2,(.fn (.func 102) [] [(.ptr 0 0),(.ptr 1 0)])),(6,ff),(9,v0),(10,x2),(11,x3)],[(0,.row [v1,v2,v3,v4,v5,v6,x1]),(1,.row [(.map 2)]),(2,.mu 1)],3⟩,[(3,y0)],[(3,.nat)],[(1,(.nm 0))],[(1,true)],3,x2,[],[],[],3,[]⟩
 (.two (.cmp .lss 3 x3 x2)
 (.one (.row 27 0 x3)
 (.call 25 [x1,x4,x5,x6,x7,x8,x9,x10,x11,x12,x13,x14] [1,2,3,4,5,6,7,8] [1]
 (.one (.ari .add 3 x0 y1)
 (.rule 1 [x3,x4,x5,x6,x7,x8,x9,x10,x11,x12,x13,x14] [0,7,8] []
 (.call 29 [x15,x1] [7,1,2,3,4,5,6] [2]
 (.brk (.pan (.iface 162 (.agg [x16,x1]))) ⟨[(6,ff)],[(0,.row [v1,v2,v3,v4,v5,v6,x1]),(1,.row [(.map 2)]),(2,.mu 3)],3⟩ []
 (.leaf (.pan (.iface 162 (.agg [x16,x1]))) ⟨[],[(0,.row [v1,v2,v3,v4,v5,v6,x1]),(1,.row [(.map 2)]),(2,.mu 3)],3⟩))
 (.call 29 [x15,x1] [8,1,2,3,4,5,6] [3]
 (.brk (.pan (.iface 162 (.agg [x16,x1]))) ⟨[(6,ff)],[(0,.row [v1,v2,v3,v4,v5,v6,x1]),(1,.row [(.map 2)]),(2,.mu 4)],3⟩ []
 (.leaf (.pan (.iface 162 (.agg [x16,x1]))) ⟨[],[(0,.row [v1,v2,v3,v4,v5,v6,x1]),(1,.row [(.map 2)]),(2,.mu 4)],3⟩))
 (.one (.inc 3 x3 x2)
 (.again [(3,x16)] [(1,(.nm 4))] [] []))
 .no)
 .no)
 .no))
 (.brk (.pan (.iface 162 (.agg [x15,x1]))) ⟨[(6,ff)],[(0,.row [v1,v2,v3,v4,v5,v6,x1]),(1,.row [(.map 2)]),(2,.mu 2)],3⟩ []
 (.leaf (.pan (.iface 162 (.agg [x15,x1]))) ⟨[],[(0,.row [v1,v2,v3,v4,v5,v6,x1]),(1,.row [(.map 2)]),(2,.mu 2)],3⟩))
 .no))
 (.brk (.exit 0) ⟨[(6,ff)],[(0,.row [v1,v2,v3,v4,v5,v6,x1]),(1,.row [(.map 2)]),(2,.mu 1)],3⟩ []
 (.leaf .ret ⟨[(6,tt)],[(0,.row [v1,v2,v3,v4,v5,v6,x1]),(1,.row [(.map 2)]),(2,.mu 1)],3⟩))))
 .no)
 .no))
def f_walkS:List Fit:=[⟨0,[x16],[],[3]⟩,⟨0,[x16],[],[4]⟩,⟨0,[x15],[],[2]⟩,⟨1,[],[],[1]⟩]
def C_walkSP:Con:=C_walkS
def p_walkS:List Con:=[C_ixHP,C_ixAP,C_ixTP,C_ixFP,C_ixKP,C_ixSP,C_headerAtP,C_actionAtP,C_tableAtP,C_fieldAtP,C_fieldOfP,C_fitsP,C_plainP,C_containsP,C_isNameP,C_nameP,C_fieldsP,C_headersP,C_WidthP,C_KindP,C_CallP,C_stepP,C_actionsP,C_tablesP,C_testP,C_stageP,C_walkTTP,C_walkTFP,C_tallP]
def L_walkS:Nat->Prop:=Lf (C_walkS.withR (.cus 0 [] [0] [])) (p_walkS++[C_walkS.withR (.cus 1 [] [0] [])]) t_walkS [] false
def C_walkS0:Con:=⟨101,[.int .i64,.str 1048640],[5,0,1,2,3,4,5],0,[v0,x0,(.fn (.func 102) [] [(.ptr 0 0),(.ptr 1 0)])],[(0,.row [v1,v2,v3,v4,v5,v6,x1]),(1,.row [(.map 2)]),(2,.map [] 0)],3,[],[⟨[.nat],[],1,[.cmp .geq x2 y0 true,.cmp .geq x2 y1 true,.cmp .leq x2 y128 true,.mk 0 true],(.pan (.iface 162 (.agg [x2,x1]))),[(0,.row [v1,v2,v3,v4,v5,v6,x1]),(1,.row [(.map 2)]),(2,.mu 0)],3⟩,
 ⟨[],[],1,[.mk 0 true],(.ret tt),[(0,.row [v1,v2,v3,v4,v5,v6,x1]),(1,.row [(.map 2)]),(2,.mu 0)],3⟩]⟩
def t_walkS0:Tree:=(.one (.len 27 0)
 (.rule 4 [] [3] []
 (.rule 28 [] [3] []
 (.rule 36 [] [5] []
 (.loop ⟨[1,0,1,0],⟨[(1,x0),(2,(.fn (.func 102) [] [(.ptr 0 0),(.ptr 1 0)])),(6,ff),(9,v0),(10,x2),(11,x3)],[(0,.row [v1,v2,v3,v4,v5,v6,x1]),(1,.row [(.map 2)]),(2,.mu 0)],3⟩,[(3,y0)],[(3,.nat)],[(0,(.lit [] 0))],[(0,true)],3,x2,[],[],[],3,[]⟩
 (.two (.cmp .lss 3 x3 x2)
 (.one (.row 27 0 x3)
 (.call 25 [x1,x4,x5,x6,x7,x8,x9,x10,x11,x12,x13,x14] [1,2,3,4,5,6,7,8] [0]
 (.one (.ari .add 3 x0 y1)
 (.call 29 [x15,x1] [7,1,2,3,4,5,6] [1]
 (.brk (.pan (.iface 162 (.agg [x16,x1]))) ⟨[(6,ff)],[(0,.row [v1,v2,v3,v4,v5,v6,x1]),(1,.row [(.map 2)]),(2,.mu 2)],3⟩ []
 (.leaf (.pan (.iface 162 (.agg [x16,x1]))) ⟨[],[(0,.row [v1,v2,v3,v4,v5,v6,x1]),(1,.row [(.map 2)]),(2,.mu 2)],3⟩))
 (.call 29 [x15,x1] [8,1,2,3,4,5,6] [2]
 (.brk (.pan (.iface 162 (.agg [x16,x1]))) ⟨[(6,ff)],[(0,.row [v1,v2,v3,v4,v5,v6,x1]),(1,.row [(.map 2)]),(2,.mu 3)],3⟩ []
 (.leaf (.pan (.iface 162 (.agg [x16,x1]))) ⟨[],[(0,.row [v1,v2,v3,v4,v5,v6,x1]),(1,.row [(.map 2)]),(2,.mu 3)],3⟩))
 (.one (.inc 3 x3 x2)
 (.again [(3,x16)] [(0,(.nm 3))] [] []))
 .no)
 .no))
 (.brk (.pan (.iface 162 (.agg [x15,x1]))) ⟨[(6,ff)],[(0,.row [v1,v2,v3,v4,v5,v6,x1]),(1,.row [(.map 2)]),(2,.mu 1)],3⟩ []
 (.leaf (.pan (.iface 162 (.agg [x15,x1]))) ⟨[],[(0,.row [v1,v2,v3,v4,v5,v6,x1]),(1,.row [(.map 2)]),(2,.mu 1)],3⟩))
 .no))
 (.brk (.exit 0) ⟨[(6,ff)],[(0,.row [v1,v2,v3,v4,v5,v6,x1]),(1,.row [(.map 2)]),(2,.mu 0)],3⟩ []
 (.leaf .ret ⟨[(6,tt)],[(0,.row [v1,v2,v3,v4,v5,v6,x1]),(1,.row [(.map 2)]),(2,.mu 0)],3⟩))))
 .no)
 .no)
 .no))
def f_walkS0:List Fit:=[⟨0,[x16],[],[2]⟩,⟨0,[x16],[],[3]⟩,⟨0,[x15],[],[1]⟩,⟨1,[],[],[0]⟩]
def C_walkS0P:Con:=C_walkS0
def p_walkS0:List Con:=[C_ixHP,C_ixAP,C_ixTP,C_ixFP,C_ixKP,C_ixSP,C_headerAtP,C_actionAtP,C_tableAtP,C_fieldAtP,C_fieldOfP,C_fitsP,C_plainP,C_containsP,C_isNameP,C_nameP,C_fieldsP,C_headersP,C_WidthP,C_KindP,C_CallP,C_stepP,C_actionsP,C_tablesP,C_testP,C_stageP,C_walkTTP,C_walkTFP,C_tallP,C_walkSP]
def L_walkS0:Nat->Prop:=Lf (C_walkS0.withR (.cus 0 [] [0] [])) (p_walkS0++[C_walkS0.withR (.cus 1 [] [0] [])]) t_walkS0 [] false
def C_rounds:Con:=⟨150,[.str 1048640],[0,1,2,3,4,5],0,[(.ptr 0 0)],[(0,.row [v0,v1,v2,v3,v4,v5,x0])],1,[.cus 2 [] [2] [],.cus 9 [] [2] []],[⟨[.str 1048582],[],0,[],(.pan (.iface 162 (.agg [y78,x1]))),[(0,.row [v0,v1,v2,v3,v4,v5,x1])],1⟩,
 ⟨[.str 1048640],[],0,[],(.ret (.tup [])),[(0,.row [v0,v1,v2,v3,v4,v5,x1])],1⟩]⟩
def t_rounds:Tree:=(.one (.len 24 2)
 (.rule 4 [] [2] []
 (.rule 28 [] [2] []
 (.rule 36 [] [4] []
 (.loop ⟨[1,0,1,0],⟨[(0,(.ptr 0 0)),(2,(.map 1)),(21,v2),(22,x1),(23,x2)],[(0,.row [v0,v1,v2,v3,v4,v5,x0]),(1,.mu 0)],2⟩,[(2,y0)],[(2,.nat)],[(0,(.lit [] 0))],[(0,true)],2,x1,[],[],[.cus 3 [] [2] [0]],2,[]⟩
 (.two (.cmp .lss 3 x2 x1)
 (.one (.row 24 2 x2)
 (.one (.inc 3 x2 x1)
 (.one (.upd 169 0 x3 x8)
 (.rule 5 [x8,x1,x2] [2] [0,1]
 (.again [(2,x8)] [(0,(.nm 1))] [] [])
 .no))))
 (.brk (.exit 0) ⟨[(0,(.ptr 0 0)),(2,(.map 1))],[(0,.row [v0,v1,v2,v3,v4,v5,x0]),(1,.mu 0)],2⟩ []
 (.loop ⟨[1,1,1,0],⟨[(0,(.ptr 0 0)),(2,(.map 1)),(38,v2),(39,x1),(40,x3)],[(0,.row [v0,v1,v2,v3,v4,v5,x4]),(1,.mu 0)],2⟩,[(3,y0),(4,x0)],[(3,.nat),(4,.str 1048640)],[],[],3,x1,[],[],[],2,[]⟩
 (.two (.cmp .lss 3 x3 x1)
 (.one (.row 24 2 x3)
 (.one (.cat 9 (ss [115,116,97,116,101,32]) x5)
 (.rule 3 [x1] [2] []
 (.rule 16 [x1] [] []
 (.rule 19 [x1] [7] []
 (.rule 23 [x3,x1] [2] []
 (.loop ⟨[1,1,1,0,0,1,1,0,0,1,1,1,1,0],⟨[(0,(.ptr 0 0)),(2,(.map 1)),(5,x3),(7,(.su 3 x1 1)),(8,(.su 5 x12 1)),(38,v2),(39,x1),(40,x3)],[(0,.row [v0,v1,v2,v3,v4,v5,x10]),(1,.mu 0),(3,.lu 10 1),(5,.lu 9 1)],6⟩,[(12,y1),(13,y0)],[(12,.int .i64),(13,.nat)],[],[],13,x11,[(9,8),(10,7)],[(9,101),(10,102)],[.cus 7 [] [9,2] [],.cus 8 [x12] [9] [],.cus 5 [x13,x11,x12] [10] [],.len x1 10],5,[(5,4)]⟩
 (.two (.cmp .gtr 3 x12 y0)
 (.rule 11 [x13,x11,x12] [10] []
 (.one (.subc 3 x12 y1)
 (.rule 10 [x14,x12] [] []
 (.rule 20 [x14,x12] [9,2] []
 (.one (.row 24 2 x15)
 (.one (.len 204 11)
 (.rule 24 [x20] [] []
 (.loop ⟨[1,1,1,0,0,1,1,0,0,1,1,1,1,0,0,1,0,1,1,1,0,1,0],⟨[(0,(.ptr 0 0)),(2,(.map 1)),(5,x3),(7,(.su 3 x1 1)),(8,(.su 5 x14 1)),(10,(.su 22 x23 1)),(38,v2),(39,x1),(40,x3),(85,v11),(86,x21),(87,x22)],[(0,.row [v0,v1,v2,v3,v4,v5,x10]),(1,.mu 0),(3,.lu 10 1),(5,.lu 9 1),(22,.lu 13 1)],23⟩,[(22,y0),(23,y1)],[(22,.nat),(23,.nat)],[],[],22,x21,[(13,12)],[(13,103)],[.len x23 13,.succ x23 x22],22,[(22,21)]⟩
 (.two (.cmp .lss 3 x22 x21)
 (.one (.row 204 11 x22)
 (.rule 27 [x21,x15,x16,x17,x18,x19,x20] [2,11] []
 (.rule 25 [x23,x28,x22,x21] [13] []
 (.one (.inc 3 x22 x21)
 (.rule 15 [x23,x22,x29,x30] [] []
 (.again [(22,x30),(23,x29)] [] [(13,14)] [(22,25)])
 .no))
 .no)
 .no))
 (.brk (.exit 6) ⟨[(0,(.ptr 0 0)),(2,(.map 1)),(5,x3),(7,(.su 3 x1 1)),(8,(.su 5 x14 1)),(10,(.su 22 x23 1)),(38,v2),(39,x1),(40,x3)],[(0,.row [v0,v1,v2,v3,v4,v5,x10]),(1,.mu 0),(3,.lu 10 1),(5,.lu 9 1),(22,.lu 13 1)],23⟩ []
 (.rule 12 [x14,x12] [9] []
 (.rule 13 [x13,x11,x12,x14] [10] []
 (.loop ⟨[1,1,1,0,0,1,1,0,0,1,1,1,1,0,0,1,0,1,1,1,1,1,0],⟨[(0,(.ptr 0 0)),(2,(.map 1)),(5,x3),(7,(.su 3 x1 1)),(8,(.su 23 x25 1)),(38,v2),(39,x1),(40,x3),(97,(.su 22 x23 1)),(98,x23),(99,x24)],[(0,.row [v0,v1,v2,v3,v4,v5,x10]),(1,.mu 0),(3,.lu 15 1),(22,.lu 13 1),(23,.lu 14 1)],24⟩,[(24,y0),(25,x14)],[(24,.nat),(25,.int .i64)],[],[],24,x23,[(14,9),(15,10)],[(14,101),(15,102)],[.cus 6 [x13,x11,x25] [15] [],.cus 8 [x25] [14] [],.cus 7 [] [14,2] [],.len x1 15],23,[(23,5)]⟩
 (.two (.cmp .lss 3 x24 x23)
 (.rule 9 [x24,x23] [] []
 (.rule 26 [x24,x23] [13] []
 (.one (.look 169 0 x26)
 (.rule 6 [x27] [2] [0]
 (.one (.subc 3 x27 y1)
 (.two (.cmp .neq 3 x28 x3)
 (.two (.cmp .geq 3 x28 y0)
 (.rule 7 [x27,x28] [2] [0]
 (.rule 8 [x28,x1] [2] []
 (.rule 17 [x28,x1] [15] []
 (.one (.inc 3 x24 x23)
 (.again [(24,x29),(25,x25)] [] [(14,14),(15,15)] [(23,23)]))
 (.rule 18 [x28,x1] [15] []
 (.rule 21 [x25,x28,x13,x11] [14,2,15] []
 (.one (.inc 3 x24 x23)
 (.rule 14 [x13,x11,x25,x29,x28] [15,16] []
 (.again [(24,x30),(25,x29)] [] [(14,17),(15,16)] [(23,25)])
 .no))
 .no)
 .no))
 .no)
 .no)
 (.one (.inc 3 x24 x23)
 (.again [(24,x29),(25,x25)] [] [(14,14),(15,15)] [(23,23)])))
 (.brk (.pan (.iface 162 (.agg [y78,x10]))) ⟨[(0,(.ptr 0 0)),(2,(.map 1)),(5,x3),(7,(.su 3 x1 1)),(8,(.su 23 x25 1)),(38,v2),(39,x1),(40,x3)],[(0,.row [v0,v1,v2,v3,v4,v5,x10]),(1,.mu 0),(3,.lu 15 1),(23,.lu 14 1)],24⟩ []
 (.brk (.pan (.iface 162 (.agg [y78,x10]))) ⟨[(0,(.ptr 0 0)),(2,(.map 1)),(38,v2),(39,x1),(40,x3)],[(0,.row [v0,v1,v2,v3,v4,v5,x10]),(1,.mu 0)],6⟩ []
 (.brk (.pan (.iface 162 (.agg [y78,x10]))) ⟨[],[(0,.row [v0,v1,v2,v3,v4,v5,x10])],2⟩ []
 (.leaf (.pan (.iface 162 (.agg [y78,x10]))) ⟨[],[(0,.row [v0,v1,v2,v3,v4,v5,x10])],1⟩))))))
 .no))
 .no)
 .no)
 (.brk (.exit 8) ⟨[(0,(.ptr 0 0)),(2,(.map 1)),(5,x3),(7,(.su 3 x1 1)),(8,(.su 23 x25 1)),(38,v2),(39,x1),(40,x3)],[(0,.row [v0,v1,v2,v3,v4,v5,x10]),(1,.mu 0),(3,.lu 15 1),(23,.lu 14 1)],24⟩ []
 (.rule 22 [x13,x11,x25] [15] []
 (.again [(12,x25),(13,x26)] [] [(9,14),(10,15)] [(5,23)])
 .no))))
 .no)
 .no))))
 .no)))
 .no)
 .no))
 .no)
 (.brk (.exit 4) ⟨[(0,(.ptr 0 0)),(2,(.map 1)),(38,v2),(39,x1),(40,x3)],[(0,.row [v0,v1,v2,v3,v4,v5,x10]),(1,.mu 0)],6⟩ []
 (.one (.inc 3 x3 x1)
 (.again [(3,x14),(4,x10)] [] [] [])))))
 .no)
 .no)
 .no)
 .no)))
 (.brk (.exit 2) ⟨[],[(0,.row [v0,v1,v2,v3,v4,v5,x4])],2⟩ []
 (.leaf .normal ⟨[],[(0,.row [v0,v1,v2,v3,v4,v5,x4])],1⟩)))))))
 .no)
 .no)
 .no))
def f_rounds:List Fit:=[⟨0,[x10],[],[]⟩,⟨1,[x4],[],[]⟩]
def C_roundsP:Con:=C_rounds
def p_rounds:List Con:=[C_ixHP,C_ixAP,C_ixTP,C_ixFP,C_ixKP,C_ixSP,C_headerAtP,C_actionAtP,C_tableAtP,C_fieldAtP,C_fieldOfP,C_fitsP,C_plainP,C_containsP,C_isNameP,C_nameP,C_fieldsP,C_headersP,C_WidthP,C_KindP,C_CallP,C_stepP,C_actionsP,C_tablesP,C_testP,C_stageP,C_walkTTP,C_walkTFP,C_tallP,C_walkSP,C_walkS0P]
def L_rounds:Nat->Prop:=Lf C_rounds p_rounds t_rounds [] false
def C_states:Con:=⟨97,[.str 1048640],[0,1,2,3,4,5],0,[(.ptr 0 0)],[(0,.row [v0,v1,v2,v3,v4,v5,x0])],1,[],[⟨[.nat,.str 1048582],[],0,[.cmp .geq x1 y0 true,.cmp .geq x1 y1 true,.cmp .leq x1 y128 true],(.pan (.iface 162 (.agg [x1,x2]))),[(0,.row [v0,v1,v2,v3,v4,v5,x2])],1⟩,
 ⟨[.str 1048640],[],0,[],(.ret (.tup [])),[(0,.row [v0,v1,v2,v3,v4,v5,x1])],1⟩]⟩
def t_states:Tree:=(.one (.len 24 2)
 (.two (.cmp .leq 3 x1 y32)
 (.rule 28 [] [2] []
 (.rule 36 [] [4] []
 (.loop ⟨[1,1,1,0,1,0],⟨[(0,(.ptr 0 0)),(2,(.map 1)),(33,v2),(34,x1),(35,x2)],[(0,.row [v0,v1,v2,v3,v4,v5,(ss [115,116,97,116,101])]),(1,.mu 0)],2⟩,[(2,y0)],[(2,.nat)],[(0,(.lit [((ss [97,99,99,101,112,116]),y1,0),((ss [114,101,106,101,99,116]),y1,1)] 2))],[(0,true)],2,x1,[],[],[],2,[]⟩
 (.two (.cmp .lss 3 x2 x1)
 (.one (.row 24 2 x2)
 (.one (.upd 169 0 x3 y1)
 (.one (.inc 3 x2 x1)
 (.again [(2,x8)] [(0,(.nm 1))] [] []))))
 (.brk (.exit 0) ⟨[(0,(.ptr 0 0)),(2,(.map 1))],[(0,.row [v0,v1,v2,v3,v4,v5,(ss [115,116,97,116,101])]),(1,.mu 0)],2⟩ []
 (.rule 4 [] [2] []
 (.loop ⟨[1,1,1,1,1,0,1,0],⟨[(0,(.ptr 0 0)),(2,(.map 1)),(5,(.map 2)),(48,v2),(49,x1),(50,x3)],[(0,.row [v0,v1,v2,v3,v4,v5,x4]),(1,.mu 0),(2,.mu 1)],3⟩,[(3,y0),(4,(ss [115,116,97,116,101]))],[(3,.nat),(4,.str 1048640)],[(1,(.lit [] 0))],[(1,true)],3,x1,[],[],[.cus 10 [x3] [2] []],3,[]⟩
 (.two (.cmp .lss 3 x3 x1)
 (.one (.row 24 2 x3)
 (.one (.cat 9 (ss [115,116,97,116,101,32]) x5)
 (.call 15 [x10,x5] [0,1,2,3,4,5] [1]
 (.brk (.pan (.iface 162 (.agg [x11,x10]))) ⟨[(0,(.ptr 0 0))],[(0,.row [v0,v1,v2,v3,v4,v5,x10])],3⟩ []
 (.leaf (.pan (.iface 162 (.agg [x11,x10]))) ⟨[],[(0,.row [v0,v1,v2,v3,v4,v5,x10])],1⟩))
 (.call 6 [x6] [0,1,2,3,4,5] []
 (.two (.cmp .geq 3 x11 y0)
 (.call 10 [x7,x8] [0,1,2,3,4,5] []
 (.two (.eqa .eql 49 [x7,x8] [(ss []),(ss [])])
 (.one (.len 204 6)
 (.two (.cmp .leq 3 x12 y32)
 (.two (.cmp .eql 3 x12 y0)
 (.loop ⟨[1,1,1,1,1,0,1,0,0,1,1,0,0,1,1,1,1,1,1,1,1,1,1,0,1,0],⟨[(0,(.ptr 0 0)),(2,(.map 1)),(5,(.map 2)),(7,(.ptr 3 0)),(8,(.ptr 24 0)),(11,(.map 30)),(48,v2),(49,x1),(50,x3),(92,(.tup [])),(105,(.ptr 3 4)),(106,v6),(107,x12),(108,tt),(113,v6),(114,x12),(115,y0)],[(0,.row [v0,v1,v2,v3,v4,v5,x10]),(1,.mu 0),(2,.mu 2),(3,.row [x5,x6,x7,x8,v6,x9]),(24,.row [(ss []),y0]),(30,.map [] 0)],31⟩,[(13,y0)],[(13,.nat)],[],[],13,y0,[],[],[.cus 13 [x13] [4] [],.cus 10 [x13] [2] []],31,[]⟩
 (.two (.cmp .lss 3 y0 x12)
 (.one (.row 204 6 y0)
 (.brk (.pan (.iface 162 (.agg [y73,x10]))) ⟨[(0,(.ptr 0 0)),(2,(.map 1)),(5,(.map 2)),(7,(.ptr 3 0)),(48,v2),(49,x1),(50,x3),(92,(.tup [])),(105,(.ptr 3 4)),(106,v6),(107,x12),(108,tt),(126,(.tup [])),(127,(.tup [])),(128,(.tup [])),(129,(.tup [])),(130,(.tup [])),(131,(.tup [])),(132,(.tup [])),(133,(.tup [])),(134,(.tup [])),(135,(.tup [])),(136,(.tup [])),(139,(.tup [])),(140,(.tup [])),(141,(.tup [])),(142,(.tup [])),(143,(.tup [])),(144,(.tup [])),(145,(.tup [])),(146,(.tup [])),(147,(.tup [])),(148,(.tup [])),(149,(.tup []))],[(0,.row [v0,v1,v2,v3,v4,v5,x10]),(1,.mu 0),(2,.mu 2),(3,.row [x5,x6,x7,x8,v6,x9])],31⟩ []
 (.brk (.pan (.iface 162 (.agg [y73,x10]))) ⟨[(0,(.ptr 0 0))],[(0,.row [v0,v1,v2,v3,v4,v5,x10])],3⟩ []
 (.leaf (.pan (.iface 162 (.agg [y73,x10]))) ⟨[],[(0,.row [v0,v1,v2,v3,v4,v5,x10])],1⟩))))
 (.brk (.exit 4) ⟨[(0,(.ptr 0 0)),(2,(.map 1)),(5,(.map 2)),(7,(.ptr 3 0)),(48,v2),(49,x1),(50,x3),(92,(.tup [])),(105,(.ptr 3 4)),(106,v6),(107,x12),(108,tt)],[(0,.row [v0,v1,v2,v3,v4,v5,x10]),(1,.mu 0),(2,.mu 2),(3,.row [x5,x6,x7,x8,v6,x9])],31⟩ []
 (.one (.look 169 0 x9)
 (.two (.cmp .eql 3 x14 y1)
 (.one (.inc 3 x3 x1)
 (.rule 29 [x12,x3,x5,x6,x7,x8,x9,x15] [2,6] []
 (.again [(3,x15),(4,x10)] [(1,(.nm 2))] [] [])
 .no))
 (.brk (.pan (.iface 162 (.agg [y72,x10]))) ⟨[(0,(.ptr 0 0))],[(0,.row [v0,v1,v2,v3,v4,v5,x10])],3⟩ []
 (.leaf (.pan (.iface 162 (.agg [y72,x10]))) ⟨[],[(0,.row [v0,v1,v2,v3,v4,v5,x10])],1⟩)))))))
 (.brk (.pan (.iface 162 (.agg [y75,x10]))) ⟨[(0,(.ptr 0 0))],[(0,.row [v0,v1,v2,v3,v4,v5,x10])],3⟩ []
 (.leaf (.pan (.iface 162 (.agg [y75,x10]))) ⟨[],[(0,.row [v0,v1,v2,v3,v4,v5,x10])],1⟩)))
 (.brk (.pan (.iface 162 (.agg [y74,x10]))) ⟨[(0,(.ptr 0 0))],[(0,.row [v0,v1,v2,v3,v4,v5,x10])],3⟩ []
 (.leaf (.pan (.iface 162 (.agg [y74,x10]))) ⟨[],[(0,.row [v0,v1,v2,v3,v4,v5,x10])],1⟩))))
 (.brk (.pan (.iface 162 (.agg [y72,x10]))) ⟨[(0,(.ptr 0 0))],[(0,.row [v0,v1,v2,v3,v4,v5,x10])],3⟩ []
 (.leaf (.pan (.iface 162 (.agg [y72,x10]))) ⟨[],[(0,.row [v0,v1,v2,v3,v4,v5,x10])],1⟩)))
 (.two (.eqa .eql 49 [x7,x8] [(ss []),(ss [])])
 (.one (.len 204 6)
 (.two (.cmp .leq 3 x14 y32)
 (.two (.cmp .eql 3 x14 y0)
 (.loop ⟨[1,1,1,1,1,0,1,0,0,1,1,0,0,1,1,1,1,1,1,1,1,1,1,0,1,0],⟨[(0,(.ptr 0 0)),(2,(.map 1)),(5,(.map 2)),(7,(.ptr 3 0)),(8,(.ptr 24 0)),(11,(.map 30)),(48,v2),(49,x1),(50,x3),(92,(.tup [])),(105,(.ptr 3 4)),(106,v6),(107,x14),(108,tt),(113,v6),(114,x14),(115,x15)],[(0,.row [v0,v1,v2,v3,v4,v5,x10]),(1,.mu 0),(2,.mu 2),(3,.row [x5,x6,x7,x8,v6,x9]),(24,.row [x12,x13]),(30,.mu 3)],31⟩,[(15,y0)],[(15,.nat)],[(3,(.lit [] 0))],[(3,false)],15,x14,[],[],[],31,[]⟩
 (.two (.cmp .lss 3 x15 x14)
 (.one (.row 204 6 x15)
 (.call 11 [x18,x19,x13] [] []
 (.brk (.pan (.iface 162 (.agg [y73,x10]))) ⟨[(0,(.ptr 0 0)),(2,(.map 1)),(5,(.map 2)),(7,(.ptr 3 0)),(48,v2),(49,x1),(50,x3),(92,(.tup [])),(105,(.ptr 3 4)),(106,v6),(107,x14),(108,tt),(126,(.tup [])),(127,(.tup [])),(128,(.tup [])),(129,(.tup [])),(130,(.tup [])),(131,(.tup [])),(132,(.tup [])),(133,(.tup [])),(134,(.tup [])),(135,(.tup [])),(136,(.tup [])),(139,(.tup [])),(140,(.tup [])),(141,(.tup [])),(142,(.tup [])),(143,(.tup [])),(144,(.tup [])),(145,(.tup [])),(146,(.tup [])),(147,(.tup [])),(148,(.tup [])),(149,(.tup []))],[(0,.row [v0,v1,v2,v3,v4,v5,x10]),(1,.mu 0),(2,.mu 2),(3,.row [x5,x6,x7,x8,v6,x9])],31⟩ []
 (.brk (.pan (.iface 162 (.agg [y73,x10]))) ⟨[(0,(.ptr 0 0))],[(0,.row [v0,v1,v2,v3,v4,v5,x10])],3⟩ []
 (.leaf (.pan (.iface 162 (.agg [y73,x10]))) ⟨[],[(0,.row [v0,v1,v2,v3,v4,v5,x10])],1⟩)))
 (.one (.ari .or 52 x16 x18)
 (.two (.cmp .eql 52 x21 x18)
 (.one (.ari .or 52 x17 x19)
 (.two (.cmp .eql 52 x22 x19)
 (.one (.look 209 3 (.agg [x16,x17,x18,x19]))
 (.two (.cmp .eql 3 x23 y0)
 (.one (.upd 209 3 (.agg [x16,x17,x18,x19]) y1)
 (.one (.look 169 0 x20)
 (.two (.cmp .eql 3 x24 y1)
 (.one (.inc 3 x15 x14)
 (.again [(15,x25)] [(3,(.nm 4))] [] []))
 (.brk (.pan (.iface 162 (.agg [y72,x10]))) ⟨[(0,(.ptr 0 0)),(2,(.map 1)),(5,(.map 2)),(7,(.ptr 3 0)),(48,v2),(49,x1),(50,x3),(92,(.tup [])),(105,(.ptr 3 4)),(106,v6),(107,x14),(108,tt),(126,(.ptr 31 0)),(127,(.ptr 31 0)),(128,x16),(129,(.ptr 31 2)),(130,(.ptr 31 2)),(131,x18),(132,x21),(133,(.ptr 31 2)),(134,(.ptr 31 2)),(135,x18),(136,tt),(139,(.ptr 31 0)),(140,(.ptr 31 1)),(141,x17),(142,(.ptr 31 2)),(143,(.ptr 31 3)),(144,x19),(145,x22),(146,(.ptr 31 2)),(147,(.ptr 31 3)),(148,x19),(149,tt)],[(0,.row [v0,v1,v2,v3,v4,v5,x10]),(1,.mu 0),(2,.mu 2),(3,.row [x5,x6,x7,x8,v6,x9]),(31,.row [x16,x17,x18,x19,x20])],33⟩ []
 (.brk (.pan (.iface 162 (.agg [y72,x10]))) ⟨[(0,(.ptr 0 0))],[(0,.row [v0,v1,v2,v3,v4,v5,x10])],3⟩ []
 (.leaf (.pan (.iface 162 (.agg [y72,x10]))) ⟨[],[(0,.row [v0,v1,v2,v3,v4,v5,x10])],1⟩))))))
 (.brk (.pan (.iface 162 (.agg [y71,x10]))) ⟨[(0,(.ptr 0 0)),(2,(.map 1)),(5,(.map 2)),(7,(.ptr 3 0)),(48,v2),(49,x1),(50,x3),(92,(.tup [])),(105,(.ptr 3 4)),(106,v6),(107,x14),(108,tt),(126,(.ptr 31 0)),(127,(.ptr 31 0)),(128,x16),(129,(.ptr 31 2)),(130,(.ptr 31 2)),(131,x18),(132,x21),(133,(.ptr 31 2)),(134,(.ptr 31 2)),(135,x18),(136,tt),(139,(.ptr 31 0)),(140,(.ptr 31 1)),(141,x17),(142,(.ptr 31 2)),(143,(.ptr 31 3)),(144,x19),(145,x22),(146,(.ptr 31 2)),(147,(.ptr 31 3)),(148,x19),(149,tt)],[(0,.row [v0,v1,v2,v3,v4,v5,x10]),(1,.mu 0),(2,.mu 2),(3,.row [x5,x6,x7,x8,v6,x9]),(31,.row [x16,x17,x18,x19,x20])],33⟩ []
 (.brk (.pan (.iface 162 (.agg [y71,x10]))) ⟨[(0,(.ptr 0 0))],[(0,.row [v0,v1,v2,v3,v4,v5,x10])],3⟩ []
 (.leaf (.pan (.iface 162 (.agg [y71,x10]))) ⟨[],[(0,.row [v0,v1,v2,v3,v4,v5,x10])],1⟩)))))
 (.brk (.pan (.iface 162 (.agg [y73,x10]))) ⟨[(0,(.ptr 0 0)),(2,(.map 1)),(5,(.map 2)),(7,(.ptr 3 0)),(48,v2),(49,x1),(50,x3),(92,(.tup [])),(105,(.ptr 3 4)),(106,v6),(107,x14),(108,tt),(126,(.ptr 31 0)),(127,(.ptr 31 0)),(128,x16),(129,(.ptr 31 2)),(130,(.ptr 31 2)),(131,x18),(132,x21),(133,(.ptr 31 2)),(134,(.ptr 31 2)),(135,x18),(136,tt),(139,(.ptr 31 0)),(140,(.ptr 31 1)),(141,x17),(142,(.ptr 31 2)),(143,(.ptr 31 3)),(144,x19),(145,x22),(146,(.ptr 31 2)),(147,(.ptr 31 3)),(148,x19),(149,ff)],[(0,.row [v0,v1,v2,v3,v4,v5,x10]),(1,.mu 0),(2,.mu 2),(3,.row [x5,x6,x7,x8,v6,x9]),(31,.row [x16,x17,x18,x19,x20])],32⟩ []
 (.brk (.pan (.iface 162 (.agg [y73,x10]))) ⟨[(0,(.ptr 0 0))],[(0,.row [v0,v1,v2,v3,v4,v5,x10])],3⟩ []
 (.leaf (.pan (.iface 162 (.agg [y73,x10]))) ⟨[],[(0,.row [v0,v1,v2,v3,v4,v5,x10])],1⟩)))))
 (.brk (.pan (.iface 162 (.agg [y73,x10]))) ⟨[(0,(.ptr 0 0)),(2,(.map 1)),(5,(.map 2)),(7,(.ptr 3 0)),(48,v2),(49,x1),(50,x3),(92,(.tup [])),(105,(.ptr 3 4)),(106,v6),(107,x14),(108,tt),(126,(.ptr 31 0)),(127,(.ptr 31 0)),(128,x16),(129,(.ptr 31 2)),(130,(.ptr 31 2)),(131,x18),(132,x21),(133,(.ptr 31 2)),(134,(.ptr 31 2)),(135,x18),(136,ff),(139,(.tup [])),(140,(.tup [])),(141,(.tup [])),(142,(.tup [])),(143,(.tup [])),(144,(.tup [])),(145,(.tup [])),(146,(.tup [])),(147,(.tup [])),(148,(.tup [])),(149,(.tup []))],[(0,.row [v0,v1,v2,v3,v4,v5,x10]),(1,.mu 0),(2,.mu 2),(3,.row [x5,x6,x7,x8,v6,x9]),(31,.row [x16,x17,x18,x19,x20])],32⟩ []
 (.brk (.pan (.iface 162 (.agg [y73,x10]))) ⟨[(0,(.ptr 0 0))],[(0,.row [v0,v1,v2,v3,v4,v5,x10])],3⟩ []
 (.leaf (.pan (.iface 162 (.agg [y73,x10]))) ⟨[],[(0,.row [v0,v1,v2,v3,v4,v5,x10])],1⟩)))))
 .no))
 (.brk (.exit 4) ⟨[(0,(.ptr 0 0)),(2,(.map 1)),(5,(.map 2)),(7,(.ptr 3 0)),(48,v2),(49,x1),(50,x3),(92,(.tup [])),(105,(.ptr 3 4)),(106,v6),(107,x14),(108,tt)],[(0,.row [v0,v1,v2,v3,v4,v5,x10]),(1,.mu 0),(2,.mu 2),(3,.row [x5,x6,x7,x8,v6,x9])],31⟩ []
 (.one (.look 169 0 x9)
 (.two (.cmp .eql 3 x16 y1)
 (.one (.inc 3 x3 x1)
 (.rule 29 [x14,x3,x5,x6,x7,x8,x9,x17] [2,6] []
 (.again [(3,x17),(4,x10)] [(1,(.nm 2))] [] [])
 .no))
 (.brk (.pan (.iface 162 (.agg [y72,x10]))) ⟨[(0,(.ptr 0 0))],[(0,.row [v0,v1,v2,v3,v4,v5,x10])],3⟩ []
 (.leaf (.pan (.iface 162 (.agg [y72,x10]))) ⟨[],[(0,.row [v0,v1,v2,v3,v4,v5,x10])],1⟩)))))))
 (.brk (.pan (.iface 162 (.agg [y75,x10]))) ⟨[(0,(.ptr 0 0))],[(0,.row [v0,v1,v2,v3,v4,v5,x10])],3⟩ []
 (.leaf (.pan (.iface 162 (.agg [y75,x10]))) ⟨[],[(0,.row [v0,v1,v2,v3,v4,v5,x10])],1⟩)))
 (.brk (.pan (.iface 162 (.agg [y74,x10]))) ⟨[(0,(.ptr 0 0))],[(0,.row [v0,v1,v2,v3,v4,v5,x10])],3⟩ []
 (.leaf (.pan (.iface 162 (.agg [y74,x10]))) ⟨[],[(0,.row [v0,v1,v2,v3,v4,v5,x10])],1⟩))))
 (.one (.len 204 6)
 (.two (.cmp .leq 3 x14 y32)
 (.loop ⟨[1,1,1,1,1,0,1,0,0,1,1,0,0,1,1,1,1,1,1,1,1,1,1,0,1,0],⟨[(0,(.ptr 0 0)),(2,(.map 1)),(5,(.map 2)),(7,(.ptr 3 0)),(8,(.ptr 24 0)),(11,(.map 30)),(48,v2),(49,x1),(50,x3),(92,tt),(105,(.tup [])),(106,(.tup [])),(107,(.tup [])),(108,(.tup [])),(113,v6),(114,x14),(115,x15)],[(0,.row [v0,v1,v2,v3,v4,v5,x10]),(1,.mu 0),(2,.mu 2),(3,.row [x5,x6,x7,x8,v6,x9]),(24,.row [x12,x13]),(30,.mu 3)],31⟩,[(15,y0)],[(15,.nat)],[(3,(.lit [] 0))],[(3,false)],15,x14,[],[],[],31,[]⟩
 (.two (.cmp .lss 3 x15 x14)
 (.one (.row 204 6 x15)
 (.call 11 [x18,x19,x13] [] []
 (.brk (.pan (.iface 162 (.agg [y73,x10]))) ⟨[(0,(.ptr 0 0)),(2,(.map 1)),(5,(.map 2)),(7,(.ptr 3 0)),(48,v2),(49,x1),(50,x3),(92,tt),(105,(.tup [])),(106,(.tup [])),(107,(.tup [])),(108,(.tup [])),(126,(.tup [])),(127,(.tup [])),(128,(.tup [])),(129,(.tup [])),(130,(.tup [])),(131,(.tup [])),(132,(.tup [])),(133,(.tup [])),(134,(.tup [])),(135,(.tup [])),(136,(.tup [])),(139,(.tup [])),(140,(.tup [])),(141,(.tup [])),(142,(.tup [])),(143,(.tup [])),(144,(.tup [])),(145,(.tup [])),(146,(.tup [])),(147,(.tup [])),(148,(.tup [])),(149,(.tup []))],[(0,.row [v0,v1,v2,v3,v4,v5,x10]),(1,.mu 0),(2,.mu 2),(3,.row [x5,x6,x7,x8,v6,x9])],31⟩ []
 (.brk (.pan (.iface 162 (.agg [y73,x10]))) ⟨[(0,(.ptr 0 0))],[(0,.row [v0,v1,v2,v3,v4,v5,x10])],3⟩ []
 (.leaf (.pan (.iface 162 (.agg [y73,x10]))) ⟨[],[(0,.row [v0,v1,v2,v3,v4,v5,x10])],1⟩)))
 (.one (.ari .or 52 x16 x18)
 (.two (.cmp .eql 52 x21 x18)
 (.one (.ari .or 52 x17 x19)
 (.two (.cmp .eql 52 x22 x19)
 (.one (.look 209 3 (.agg [x16,x17,x18,x19]))
 (.two (.cmp .eql 3 x23 y0)
 (.one (.upd 209 3 (.agg [x16,x17,x18,x19]) y1)
 (.one (.look 169 0 x20)
 (.two (.cmp .eql 3 x24 y1)
 (.one (.inc 3 x15 x14)
 (.again [(15,x25)] [(3,(.nm 4))] [] []))
 (.brk (.pan (.iface 162 (.agg [y72,x10]))) ⟨[(0,(.ptr 0 0)),(2,(.map 1)),(5,(.map 2)),(7,(.ptr 3 0)),(48,v2),(49,x1),(50,x3),(92,tt),(105,(.tup [])),(106,(.tup [])),(107,(.tup [])),(108,(.tup [])),(126,(.ptr 31 0)),(127,(.ptr 31 0)),(128,x16),(129,(.ptr 31 2)),(130,(.ptr 31 2)),(131,x18),(132,x21),(133,(.ptr 31 2)),(134,(.ptr 31 2)),(135,x18),(136,tt),(139,(.ptr 31 0)),(140,(.ptr 31 1)),(141,x17),(142,(.ptr 31 2)),(143,(.ptr 31 3)),(144,x19),(145,x22),(146,(.ptr 31 2)),(147,(.ptr 31 3)),(148,x19),(149,tt)],[(0,.row [v0,v1,v2,v3,v4,v5,x10]),(1,.mu 0),(2,.mu 2),(3,.row [x5,x6,x7,x8,v6,x9]),(31,.row [x16,x17,x18,x19,x20])],33⟩ []
 (.brk (.pan (.iface 162 (.agg [y72,x10]))) ⟨[(0,(.ptr 0 0))],[(0,.row [v0,v1,v2,v3,v4,v5,x10])],3⟩ []
 (.leaf (.pan (.iface 162 (.agg [y72,x10]))) ⟨[],[(0,.row [v0,v1,v2,v3,v4,v5,x10])],1⟩))))))
 (.brk (.pan (.iface 162 (.agg [y71,x10]))) ⟨[(0,(.ptr 0 0)),(2,(.map 1)),(5,(.map 2)),(7,(.ptr 3 0)),(48,v2),(49,x1),(50,x3),(92,tt),(105,(.tup [])),(106,(.tup [])),(107,(.tup [])),(108,(.tup [])),(126,(.ptr 31 0)),(127,(.ptr 31 0)),(128,x16),(129,(.ptr 31 2)),(130,(.ptr 31 2)),(131,x18),(132,x21),(133,(.ptr 31 2)),(134,(.ptr 31 2)),(135,x18),(136,tt),(139,(.ptr 31 0)),(140,(.ptr 31 1)),(141,x17),(142,(.ptr 31 2)),(143,(.ptr 31 3)),(144,x19),(145,x22),(146,(.ptr 31 2)),(147,(.ptr 31 3)),(148,x19),(149,tt)],[(0,.row [v0,v1,v2,v3,v4,v5,x10]),(1,.mu 0),(2,.mu 2),(3,.row [x5,x6,x7,x8,v6,x9]),(31,.row [x16,x17,x18,x19,x20])],33⟩ []
 (.brk (.pan (.iface 162 (.agg [y71,x10]))) ⟨[(0,(.ptr 0 0))],[(0,.row [v0,v1,v2,v3,v4,v5,x10])],3⟩ []
 (.leaf (.pan (.iface 162 (.agg [y71,x10]))) ⟨[],[(0,.row [v0,v1,v2,v3,v4,v5,x10])],1⟩)))))
 (.brk (.pan (.iface 162 (.agg [y73,x10]))) ⟨[(0,(.ptr 0 0)),(2,(.map 1)),(5,(.map 2)),(7,(.ptr 3 0)),(48,v2),(49,x1),(50,x3),(92,tt),(105,(.tup [])),(106,(.tup [])),(107,(.tup [])),(108,(.tup [])),(126,(.ptr 31 0)),(127,(.ptr 31 0)),(128,x16),(129,(.ptr 31 2)),(130,(.ptr 31 2)),(131,x18),(132,x21),(133,(.ptr 31 2)),(134,(.ptr 31 2)),(135,x18),(136,tt),(139,(.ptr 31 0)),(140,(.ptr 31 1)),(141,x17),(142,(.ptr 31 2)),(143,(.ptr 31 3)),(144,x19),(145,x22),(146,(.ptr 31 2)),(147,(.ptr 31 3)),(148,x19),(149,ff)],[(0,.row [v0,v1,v2,v3,v4,v5,x10]),(1,.mu 0),(2,.mu 2),(3,.row [x5,x6,x7,x8,v6,x9]),(31,.row [x16,x17,x18,x19,x20])],32⟩ []
 (.brk (.pan (.iface 162 (.agg [y73,x10]))) ⟨[(0,(.ptr 0 0))],[(0,.row [v0,v1,v2,v3,v4,v5,x10])],3⟩ []
 (.leaf (.pan (.iface 162 (.agg [y73,x10]))) ⟨[],[(0,.row [v0,v1,v2,v3,v4,v5,x10])],1⟩)))))
 (.brk (.pan (.iface 162 (.agg [y73,x10]))) ⟨[(0,(.ptr 0 0)),(2,(.map 1)),(5,(.map 2)),(7,(.ptr 3 0)),(48,v2),(49,x1),(50,x3),(92,tt),(105,(.tup [])),(106,(.tup [])),(107,(.tup [])),(108,(.tup [])),(126,(.ptr 31 0)),(127,(.ptr 31 0)),(128,x16),(129,(.ptr 31 2)),(130,(.ptr 31 2)),(131,x18),(132,x21),(133,(.ptr 31 2)),(134,(.ptr 31 2)),(135,x18),(136,ff),(139,(.tup [])),(140,(.tup [])),(141,(.tup [])),(142,(.tup [])),(143,(.tup [])),(144,(.tup [])),(145,(.tup [])),(146,(.tup [])),(147,(.tup [])),(148,(.tup [])),(149,(.tup []))],[(0,.row [v0,v1,v2,v3,v4,v5,x10]),(1,.mu 0),(2,.mu 2),(3,.row [x5,x6,x7,x8,v6,x9]),(31,.row [x16,x17,x18,x19,x20])],32⟩ []
 (.brk (.pan (.iface 162 (.agg [y73,x10]))) ⟨[(0,(.ptr 0 0))],[(0,.row [v0,v1,v2,v3,v4,v5,x10])],3⟩ []
 (.leaf (.pan (.iface 162 (.agg [y73,x10]))) ⟨[],[(0,.row [v0,v1,v2,v3,v4,v5,x10])],1⟩)))))
 .no))
 (.brk (.exit 4) ⟨[(0,(.ptr 0 0)),(2,(.map 1)),(5,(.map 2)),(7,(.ptr 3 0)),(48,v2),(49,x1),(50,x3),(92,tt),(105,(.tup [])),(106,(.tup [])),(107,(.tup [])),(108,(.tup []))],[(0,.row [v0,v1,v2,v3,v4,v5,x10]),(1,.mu 0),(2,.mu 2),(3,.row [x5,x6,x7,x8,v6,x9])],31⟩ []
 (.one (.look 169 0 x9)
 (.two (.cmp .eql 3 x16 y1)
 (.one (.inc 3 x3 x1)
 (.rule 29 [x14,x3,x5,x6,x7,x8,x9,x17] [2,6] []
 (.again [(3,x17),(4,x10)] [(1,(.nm 2))] [] [])
 .no))
 (.brk (.pan (.iface 162 (.agg [y72,x10]))) ⟨[(0,(.ptr 0 0))],[(0,.row [v0,v1,v2,v3,v4,v5,x10])],3⟩ []
 (.leaf (.pan (.iface 162 (.agg [y72,x10]))) ⟨[],[(0,.row [v0,v1,v2,v3,v4,v5,x10])],1⟩)))))))
 (.brk (.pan (.iface 162 (.agg [y74,x10]))) ⟨[(0,(.ptr 0 0))],[(0,.row [v0,v1,v2,v3,v4,v5,x10])],3⟩ []
 (.leaf (.pan (.iface 162 (.agg [y74,x10]))) ⟨[],[(0,.row [v0,v1,v2,v3,v4,v5,x10])],1⟩)))))
 .no)
 (.brk (.pan (.iface 162 (.agg [y72,x10]))) ⟨[(0,(.ptr 0 0))],[(0,.row [v0,v1,v2,v3,v4,v5,x10])],3⟩ []
 (.leaf (.pan (.iface 162 (.agg [y72,x10]))) ⟨[],[(0,.row [v0,v1,v2,v3,v4,v5,x10])],1⟩)))
 .no
 .no)
 .no)))
 (.brk (.exit 2) ⟨[(0,(.ptr 0 0))],[(0,.row [v0,v1,v2,v3,v4,v5,x4])],3⟩ []
 (.rule 2 [x1] [2] []
 (.rule 30 [x3,x1] [2] []
 (.call 31 [x4] [0,1,2,3,4,5] []
 (.leaf (.pan (.iface 162 (.agg [y78,x5]))) ⟨[],[(0,.row [v0,v1,v2,v3,v4,v5,x5])],1⟩)
 (.leaf .normal ⟨[],[(0,.row [v0,v1,v2,v3,v4,v5,x5])],1⟩)
 .no)
 .no)
 .no))))
 .no))))
 .no)
 .no)
 (.leaf (.pan (.iface 162 (.agg [y74,(ss [115,116,97,116,101])]))) ⟨[],[(0,.row [v0,v1,v2,v3,v4,v5,(ss [115,116,97,116,101])])],1⟩)))
def f_states:List Fit:=[⟨0,[x11,x10],[],[]⟩,⟨0,[y73,x10],[],[]⟩,⟨0,[y72,x10],[],[]⟩,⟨0,[y75,x10],[],[]⟩,⟨0,[y74,x10],[],[]⟩,⟨0,[y72,x10],[],[]⟩,⟨0,[y73,x10],[],[]⟩,⟨0,[y72,x10],[],[]⟩,⟨0,[y71,x10],[],[]⟩,⟨0,[y73,x10],[],[]⟩,⟨0,[y73,x10],[],[]⟩,⟨0,[y72,x10],[],[]⟩,⟨0,[y75,x10],[],[]⟩,⟨0,[y74,x10],[],[]⟩,⟨0,[y73,x10],[],[]⟩,⟨0,[y72,x10],[],[]⟩,⟨0,[y71,x10],[],[]⟩,⟨0,[y73,x10],[],[]⟩,⟨0,[y73,x10],[],[]⟩,⟨0,[y72,x10],[],[]⟩,⟨0,[y74,x10],[],[]⟩,⟨0,[y72,x10],[],[]⟩,⟨0,[y78,x5],[],[]⟩,⟨1,[x5],[],[]⟩,⟨0,[y74,(ss [115,116,97,116,101])],[],[]⟩]
def C_statesP:Con:=C_states
def p_states:List Con:=[C_ixHP,C_ixAP,C_ixTP,C_ixFP,C_ixKP,C_ixSP,C_headerAtP,C_actionAtP,C_tableAtP,C_fieldAtP,C_fieldOfP,C_fitsP,C_plainP,C_containsP,C_isNameP,C_nameP,C_fieldsP,C_headersP,C_WidthP,C_KindP,C_CallP,C_stepP,C_actionsP,C_tablesP,C_testP,C_stageP,C_walkTTP,C_walkTFP,C_tallP,C_walkSP,C_walkS0P,C_roundsP]
def L_states:Nat->Prop:=Lf C_states p_states t_states [] false
def C_Check:Con:=⟨60,[],[0,1,2,3,4,5],0,[(.agg [v0,v1,v2,v3,v4,v5])],[],0,[],[⟨[.nat,.str 1048583],[],0,[.cmp .geq x0 y0 true,.cmp .geq x0 y1 true,.cmp .leq x0 y128 true],(.ret (.tup [x0,x1])),[],13⟩,
 ⟨[],[],0,[.cus 14 [] [4] []],(.ret (.tup [y0,(ss [])])),[],7⟩]⟩
def t_Check:Tree:=(.call 17 [(ss [])] [0,1,2,3,4,5] []
 (.leaf .ret ⟨[(0,x0),(1,x1)],[],11⟩)
 (.one (.len 23 1)
 (.two (.cmp .leq 3 x1 y32)
 (.call 16 [(ss [109,101,116,97])] [0,1,2,3,4,5,1] []
 (.leaf .ret ⟨[(0,x2),(1,(ss [109,101,116,97]))],[],11⟩)
 (.call 32 [(ss [109,101,116,97])] [0,1,2,3,4,5] []
 (.leaf .ret ⟨[(0,x2),(1,x3)],[],11⟩)
 (.call 22 [x2] [0,1,2,3,4,5] []
 (.leaf .ret ⟨[(0,x3),(1,x4)],[],11⟩)
 (.call 23 [x3] [0,1,2,3,4,5] []
 (.leaf .ret ⟨[(0,x4),(1,x5)],[],11⟩)
 (.call 28 [] [0,1,2,3,4,5] []
 (.two (.cmp .neq 60 x5 y0)
 (.rule 39 [x5] [] []
 (.leaf .ret ⟨[(0,x5),(1,(ss [99,111,110,116,114,111,108]))],[],11⟩)
 .no)
 (.call 30 [y1,(ss [99,111,110,116,114,111,108])] [5,0,1,2,3,4,5] []
 (.leaf .ret ⟨[(0,x6),(1,(ss [99,111,110,116,114,111,108]))],[],13⟩)
 (.leaf .ret ⟨[(0,y0),(1,(ss []))],[],7⟩)
 .no))
 .no
 .no)
 .no)
 .no)
 .no)
 .no)
 (.leaf .ret ⟨[(0,y74),(1,(ss [109,101,116,97]))],[],11⟩)))
 .no)
def f_Check:List Fit:=[⟨0,[x0,x1],[],[]⟩,⟨0,[x2,(ss [109,101,116,97])],[],[]⟩,⟨0,[x2,x3],[],[]⟩,⟨0,[x3,x4],[],[]⟩,⟨0,[x4,x5],[],[]⟩,⟨0,[x5,(ss [99,111,110,116,114,111,108])],[],[]⟩,⟨0,[x6,(ss [99,111,110,116,114,111,108])],[],[]⟩,⟨1,[],[],[]⟩,⟨0,[y74,(ss [109,101,116,97])],[],[]⟩]
def C_CheckP:Con:=C_Check
def p_Check:List Con:=[C_ixHP,C_ixAP,C_ixTP,C_ixFP,C_ixKP,C_ixSP,C_headerAtP,C_actionAtP,C_tableAtP,C_fieldAtP,C_fieldOfP,C_fitsP,C_plainP,C_containsP,C_isNameP,C_nameP,C_fieldsP,C_headersP,C_WidthP,C_KindP,C_CallP,C_stepP,C_actionsP,C_tablesP,C_testP,C_stageP,C_walkTTP,C_walkTFP,C_tallP,C_walkSP,C_walkS0P,C_roundsP,C_statesP]
def L_Check:Nat->Prop:=Lf C_Check p_Check t_Check [] true
def C_Widths:Con:=⟨61,[.str 1048576],[0,1,2,3,4,5],0,[(.agg [v0,v1,v2,v3,v4,v5]),x0],[],0,[],[⟨[],[],0,[.cus 31 [x0] [0,1,2,3,4,5] []],(.ret (.tup [ns,y110])),[],0⟩,
 ⟨[.nat],[101],0,[.len x1 6,.cmp .geq x1 y0 true,.cus 30 [x0,x1] [0,1,2,3,4,5] [],.cus 22 [] [6] []],(.ret (.tup [(.su 1 x1 1),y0])),[(1,.lu 6 1)],2⟩]⟩
def Z_Widths:List (IRes×HL):=[((.ret (.tup [ns,y110])),[]),((.ret (.tup [v6,y0])),[])]
def t_Widths:Tree:=(.call 8 [x0] [0,1,2,3,4,5] []
 (.two (.cmp .lss 3 x1 y0)
 (.rule 48 [x0,x1] [0,1,2,3,4,5] []
 (.leaf .ret ⟨[(4,ns),(5,y110)],[],0⟩)
 .no)
 (.one (.row 26 4 x1)
 (.one (.len 34 6)
 (.rule 43 [] [] []
 (.rule 28 [] [2] []
 (.rule 36 [] [4] []
 (.rule 40 [] [] []
 (.rule 31 [] [6] []
 (.loop ⟨[1,1,1,1,0,1,0],⟨[(2,(.ptr 0 0)),(4,ns),(5,y0),(7,(.su 1 x7 1)),(20,v6),(21,x6),(22,x8)],[(0,.row [v0,v1,v2,v3,v4,v5]),(1,.lu 10 1)],2⟩,[(7,y0),(8,y0)],[(7,.nat),(8,.nat)],[],[],8,x6,[(10,9)],[(10,101)],[.cus 15 [x7,x7] [] [],.cus 15 [x7,x8] [] [],.cus 15 [x8,x7] [] [],.cus 15 [x8,x8] [] [],.len x7 10,.cus 22 [] [10] []],1,[(1,1002)]⟩
 (.two (.cmp .lss 3 x8 x6)
 (.one (.row 34 6 x8)
 (.call 18 [x9,x10] [0,1,2,3,4,5] []
 (.rule 44 [x7,x12,x8,x6] [10,6] []
 (.one (.inc 3 x8 x6)
 (.rule 41 [x7,x7,x13,x13] [] []
 (.rule 41 [x7,x8,x13,x14] [] []
 (.rule 41 [x8,x7,x14,x13] [] []
 (.rule 41 [x8,x8,x14,x14] [] []
 (.again [(7,x13),(8,x14)] [] [(10,11)] [(1,4)])
 .no)
 .no)
 .no)
 .no))
 .no)
 .no
 .no))
 (.brk (.exit 0) ⟨[(4,ns),(5,y0),(7,(.su 1 x7 1))],[(1,.lu 10 1)],2⟩ []
 (.rule 42 [x7,x8,x6] [] []
 (.rule 46 [x0,x1,x2,x3,x4,x5,x6] [0,1,2,3,4,5,6,7,8] []
 (.rule 47 [x0,x7,x6] [0,1,2,3,4,5] []
 (.leaf .ret ⟨[(4,(.su 1 x7 1)),(5,y0)],[(1,.lu 10 1)],2⟩)
 .no)
 .no)
 .no))))
 .no)
 .no)
 .no)
 .no)
 .no))))
 .no
 .no)
def f_Widths:List Fit:=[⟨0,[],[],[]⟩,⟨1,[x7],[10],[]⟩]
def C_WidthsP:Con:=(C_Widths.freeze Z_Widths)
def p_Widths:List Con:=[C_ixHP,C_ixAP,C_ixTP,C_ixFP,C_ixKP,C_ixSP,C_headerAtP,C_actionAtP,C_tableAtP,C_fieldAtP,C_fieldOfP,C_fitsP,C_plainP,C_containsP,C_isNameP,C_nameP,C_fieldsP,C_headersP,C_WidthP,C_KindP,C_CallP,C_stepP,C_actionsP,C_tablesP,C_testP,C_stageP,C_walkTTP,C_walkTFP,C_tallP,C_walkSP,C_walkS0P,C_roundsP,C_statesP,C_CheckP]
def L_Widths:Nat->Prop:=Lf C_Widths p_Widths t_Widths [] false
def C_kinds:Con:=⟨62,[.int .i64],[],0,[x0],[],0,[.cmp .geq x0 y0 true,.cmp .leq x0 y128 true],[⟨[.int .u64,.int .u64],[],0,[],(.ret (.map 5)),[(0,.row [x0]),(2,.row [x1,x2]),(3,.row [(.fn (.func 105) [] [(.ptr 2 0)])]),(4,.row [(nk .u64 0),(nk .u64 0)]),(5,.map [(y1,(.agg [y0,y0,(.fn (.func 107) [] [(.ptr 3 0)]),(.fn (.func 108) [] []),(.fn (.func 106) [] []),(.fn (.func 106) [] [])]),0),(y2,(.agg [y0,y0,(.fn (.func 109) [] [(.ptr 0 0),(.ptr 4 0)]),(.fn (.func 111) [] [(.ptr 0 0)]),(.fn (.func 112) [] [(.ptr 0 0)]),(.fn (.func 113) [] [(.ptr 0 0)])]),1),(y3,(.agg [y0,y0,(.fn (.func 114) [] [(.ptr 3 0)]),(.fn (.func 115) [] []),(.fn (.func 116) [] []),(.fn (.func 117) [] [])]),2),(y4,(.agg [y0,y0,(.fn (.func 118) [] [(.ptr 3 0)]),(.fn (.func 120) [] []),(.fn (.func 121) [] []),(.fn (.func 122) [] [])]),3)] 4)],6⟩]⟩
def Z_kinds:List (IRes×HL):=[((.ret (.map 5)),[(5,.map [(y1,(.agg [y0,y0,(.fn (.func 107) [] [(.fp [(.fn (.func 105) [] [(.fp [x1,x2] 0)])] 0)]),(.fn (.func 108) [] []),(.fn (.func 106) [] []),(.fn (.func 106) [] [])]),0),(y2,(.agg [y0,y0,(.fn (.func 109) [] [(.fp [x0] 0),(.fp [(nk .u64 0),(nk .u64 0)] 0)]),(.fn (.func 111) [] [(.fp [x0] 0)]),(.fn (.func 112) [] [(.fp [x0] 0)]),(.fn (.func 113) [] [(.fp [x0] 0)])]),1),(y3,(.agg [y0,y0,(.fn (.func 114) [] [(.fp [(.fn (.func 105) [] [(.fp [x1,x2] 0)])] 0)]),(.fn (.func 115) [] []),(.fn (.func 116) [] []),(.fn (.func 117) [] [])]),2),(y4,(.agg [y0,y0,(.fn (.func 118) [] [(.fp [(.fn (.func 105) [] [(.fp [x1,x2] 0)])] 0)]),(.fn (.func 120) [] []),(.fn (.func 121) [] []),(.fn (.func 122) [] [])]),3)] 4)])]
def t_kinds:Tree:=(.two (.cmp .gtr 3 x0 y64)
 (.one (.subc 3 x0 y64)
 (.one (.sh .shl 52 (nk .u64 1) x1)
 (.one (.ari .sub 52 x2 (nk .u64 1))
 (.leaf .ret ⟨[(2,(.map 5))],[(0,.row [x0]),(2,.row [x3,(nk .u64 18446744073709551615)]),(3,.row [(.fn (.func 105) [] [(.ptr 2 0)])]),(4,.row [(nk .u64 0),(nk .u64 0)]),(5,.map [(y1,(.agg [y0,y0,(.fn (.func 107) [] [(.ptr 3 0)]),(.fn (.func 108) [] []),(.fn (.func 106) [] []),(.fn (.func 106) [] [])]),0),(y2,(.agg [y0,y0,(.fn (.func 109) [] [(.ptr 0 0),(.ptr 4 0)]),(.fn (.func 111) [] [(.ptr 0 0)]),(.fn (.func 112) [] [(.ptr 0 0)]),(.fn (.func 113) [] [(.ptr 0 0)])]),1),(y3,(.agg [y0,y0,(.fn (.func 114) [] [(.ptr 3 0)]),(.fn (.func 115) [] []),(.fn (.func 116) [] []),(.fn (.func 117) [] [])]),2),(y4,(.agg [y0,y0,(.fn (.func 118) [] [(.ptr 3 0)]),(.fn (.func 120) [] []),(.fn (.func 121) [] []),(.fn (.func 122) [] [])]),3)] 4)],6⟩))))
 (.one (.sh .shl 52 (nk .u64 1) x0)
 (.one (.ari .sub 52 x1 (nk .u64 1))
 (.leaf .ret ⟨[(2,(.map 5))],[(0,.row [x0]),(2,.row [(nk .u64 0),x2]),(3,.row [(.fn (.func 105) [] [(.ptr 2 0)])]),(4,.row [(nk .u64 0),(nk .u64 0)]),(5,.map [(y1,(.agg [y0,y0,(.fn (.func 107) [] [(.ptr 3 0)]),(.fn (.func 108) [] []),(.fn (.func 106) [] []),(.fn (.func 106) [] [])]),0),(y2,(.agg [y0,y0,(.fn (.func 109) [] [(.ptr 0 0),(.ptr 4 0)]),(.fn (.func 111) [] [(.ptr 0 0)]),(.fn (.func 112) [] [(.ptr 0 0)]),(.fn (.func 113) [] [(.ptr 0 0)])]),1),(y3,(.agg [y0,y0,(.fn (.func 114) [] [(.ptr 3 0)]),(.fn (.func 115) [] []),(.fn (.func 116) [] []),(.fn (.func 117) [] [])]),2),(y4,(.agg [y0,y0,(.fn (.func 118) [] [(.ptr 3 0)]),(.fn (.func 120) [] []),(.fn (.func 121) [] []),(.fn (.func 122) [] [])]),3)] 4)],6⟩))))
def f_kinds:List Fit:=[⟨0,[x3,(nk .u64 18446744073709551615)],[],[]⟩,⟨0,[(nk .u64 0),x2],[],[]⟩]
def C_kindsP:Con:=(C_kinds.freeze Z_kinds)
def p_kinds:List Con:=[C_ixHP,C_ixAP,C_ixTP,C_ixFP,C_ixKP,C_ixSP,C_headerAtP,C_actionAtP,C_tableAtP,C_fieldAtP,C_fieldOfP,C_fitsP,C_plainP,C_containsP,C_isNameP,C_nameP,C_fieldsP,C_headersP,C_WidthP,C_KindP,C_CallP,C_stepP,C_actionsP,C_tablesP,C_testP,C_stageP,C_walkTTP,C_walkTFP,C_tallP,C_walkSP,C_walkS0P,C_roundsP,C_statesP,C_CheckP,C_WidthsP]
def L_kinds:Nat->Prop:=Lf C_kinds p_kinds t_kinds [] false
def C_cloK:Con:=⟨69,[],[10],0,[v0],[],0,[],[⟨[],[],0,[],(.ret v0),[],0⟩]⟩
def C_cloKP:Con:=C_cloK
def C_cloS:Con:=⟨70,[],[11],0,[v0],[],0,[],[⟨[],[],0,[],(.ret v0),[],0⟩]⟩
def C_cloSP:Con:=C_cloS
def C_cloB:Con:=⟨71,[],[7],0,[v0],[],0,[],[⟨[],[],0,[],(.ret v0),[],0⟩]⟩
def C_cloBP:Con:=C_cloB
def C_of:Con:=⟨24,[.str 1048576],[0,1,2,3,4,5],0,[(.agg [v0,v1,v2,v3,v4,v5]),x0],[],0,[],[⟨[.nat],[],0,[.cmp .geq x1 y0 true,.cmp .geq x1 y1 true,.cmp .leq x1 y128 true],(.ret (.tup [(.agg [(ss []),ns,ns,y0,(ss []),ns,ff,ns,ff]),x1])),[],15⟩,
 ⟨[.str 1048576,.int .i64,.str 1048576,.boo,.nat],[10,11,7,104],0,[.len x5 9,.cmp .geq x5 y0 true,.cus 117 [] [9,6] [],.cus 118 [] [9] [],.cus 12 [] [6] [],.cus 129 [tt] [6] [],.cus 32 [x0] [0,1,2,3,4,5,6] []],(.ret (.tup [(.agg [x1,v6,v7,x2,x3,v8,x4,(.su 23 x5 6),tt]),y0])),[(23,.lu 9 6)],24⟩,
 ⟨[.str 1048576,.int .i64,.str 1048576,.boo,.nat],[10,11,7,104],0,[.len x5 9,.cmp .geq x5 y0 true,.cus 117 [] [9,6] [],.cus 118 [] [9] [],.cus 12 [] [6] [],.cus 129 [ff] [6] [],.cus 32 [x0] [0,1,2,3,4,5,6] []],(.ret (.tup [(.agg [x1,v6,v7,x2,x3,v8,x4,(.su 23 x5 6),ff]),y0])),[(23,.lu 9 6)],24⟩]⟩
def Z_of:List (IRes×HL):=[((.ret (.tup [(.agg [(ss []),ns,ns,y0,(ss []),ns,ff,ns,ff]),x1])),[]),((.ret (.tup [(.agg [x1,v6,v7,x2,x3,v8,x4,v9,tt]),y0])),[]),((.ret (.tup [(.agg [x1,v6,v7,x2,x3,v8,x4,v9,ff]),y0])),[])]
def t_of:Tree:=(.call 33 [] [0,1,2,3,4,5] []
 (.two (.cmp .neq 60 x1 y0)
 (.leaf .ret ⟨[(4,(.ptr 1 0)),(5,y90)],[(1,.row [(ss []),ns,ns,y0,(ss []),ns,ff,ns,ff])],15⟩)
 (.rule 73 [x1] [] []
 .no
 .no))
 (.call 8 [x0] [0,1,2,3,4,5] []
 (.two (.cmp .geq 3 x1 y0)
 (.one (.row 26 4 x1)
 (.call 36 [] [6] []
 (.call 37 [] [7] []
 (.call 38 [] [8] []
 (.call 19 [x2,x3,x4,x5] [6,7,8] []
 (.two (.cmp .eql 3 x6 y3)
 (.call 34 [x0] [0,1,2,3,4,5] []
 (.one (.len 34 6)
 (.rule 28 [] [2] []
 (.rule 36 [] [4] []
 (.loop ⟨[1,1,1,1,1,1,0,1,0],⟨[(4,(.ptr 1 0)),(5,y0),(11,(.ptr 19 0)),(12,ns),(47,v6),(48,x7),(49,y0)],[(1,.row [(ss []),ns,ns,y0,(ss []),ns,ff,ns,ff]),(19,.row [x2,v6,v7,x3,x4,v8,x5,ns,tt])],21⟩,[(8,y0)],[(8,.nat)],[],[],8,y0,[],[],[.cus 13 [x8] [4] [],.cus 10 [x8] [2] [],.cus 50 [x0,x8,x1] [0,1,2,3,4,5] []],21,[]⟩
 (.two (.cmp .lss 3 y0 x7)
 (.rule 50 [x0,x1] [0,1,2,3,4,5] []
 .no
 .no)
 (.rule 50 [x0,x1] [0,1,2,3,4,5] []
 .no
 .no)))
 .no)
 .no))
 (.one (.len 34 6)
 (.rule 52 [] [] []
 (.rule 53 [] [10,6] []
 (.rule 28 [] [2] []
 (.rule 36 [] [4] []
 (.rule 40 [] [] []
 (.rule 31 [] [6] []
 (.loop ⟨[1,1,1,1,1,1,0,1,0],⟨[(4,(.ptr 1 0)),(5,y0),(11,(.ptr 19 0)),(12,v9),(47,v6),(48,x8),(49,x9)],[(1,.row [(ss []),ns,ns,y0,(ss []),ns,ff,ns,ff]),(19,.row [x2,v6,v7,x3,x4,v8,x5,(.su 23 x10 6),tt]),(23,.lu 11 6)],24⟩,[(9,y0),(10,y0)],[(9,.nat),(10,.nat)],[],[],9,x8,[(11,10)],[(11,104)],[.cus 15 [x9,x9] [] [],.cus 15 [x9,x10] [] [],.cus 15 [x10,x9] [] [],.cus 15 [x10,x10] [] [],.cus 116 [] [11,6] [],.len x10 11],23,[(23,1046)]⟩
 (.two (.cmp .lss 3 x9 x8)
 (.one (.row 34 6 x9)
 (.rule 49 [x0,x1,x2,x3,x4,x5,x7] [0,1,2,3,4,5,6,7,8] []
 (.rule 51 [x7,x8] [9,6] []
 (.one (.row 127 9 x9)
 (.rule 45 [x9,x14] [9] []
 (.call 35 [x14] [] []
 (.two (.eqi 3 x13 y1)
 (.rule 54 [x10,x9,x8,x13,x14,x15,x16,x11,x12] [11,6] []
 (.one (.inc 3 x9 x8)
 (.rule 41 [x9,x9,x18,x18] [] []
 (.rule 41 [x9,x10,x18,x17] [] []
 (.rule 41 [x10,x9,x17,x18] [] []
 (.rule 41 [x10,x10,x17,x17] [] []
 (.again [(9,x18),(10,x17)] [] [(11,12)] [(23,52)])
 .no)
 .no)
 .no)
 .no))
 .no)
 (.two (.eqi 3 x13 y2)
 (.rule 55 [x10,x9,x8,x13,x14,(nk .u64 0),(nk .u64 0),x11,x12] [11,6] []
 (.one (.inc 3 x9 x8)
 (.rule 41 [x9,x9,x18,x18] [] []
 (.rule 41 [x9,x10,x18,x17] [] []
 (.rule 41 [x10,x9,x17,x18] [] []
 (.rule 41 [x10,x10,x17,x17] [] []
 (.again [(9,x18),(10,x17)] [] [(11,12)] [(23,52)])
 .no)
 .no)
 .no)
 .no))
 .no)
 (.two (.eqi 3 x13 y3)
 (.rule 56 [x10,x9,x8,x13,x14,x15,x16,x11,x12] [11,6] []
 (.one (.inc 3 x9 x8)
 (.rule 41 [x9,x9,x18,x18] [] []
 (.rule 41 [x9,x10,x18,x17] [] []
 (.rule 41 [x10,x9,x17,x18] [] []
 (.rule 41 [x10,x10,x17,x17] [] []
 (.again [(9,x18),(10,x17)] [] [(11,12)] [(23,52)])
 .no)
 .no)
 .no)
 .no))
 .no)
 (.two (.eqi 3 x13 y4)
 (.rule 57 [x10,x9,x8,x13,x14,x15,x16,x11,x12] [11,6] []
 (.one (.inc 3 x9 x8)
 (.rule 41 [x9,x9,x18,x18] [] []
 (.rule 41 [x9,x10,x18,x17] [] []
 (.rule 41 [x10,x9,x17,x18] [] []
 (.rule 41 [x10,x10,x17,x17] [] []
 (.again [(9,x18),(10,x17)] [] [(11,12)] [(23,52)])
 .no)
 .no)
 .no)
 .no))
 .no)
 (.rule 60 [x1,x2,x3,x4,x5] [4,6,7,8] []
 (.rule 61 [x9,x11,x12,x13] [6] []
 (.rule 62 [x13] [] []
 .no
 .no)
 .no)
 .no)))))
 .no
 .no)
 .no))
 .no)
 .no))
 (.brk (.exit 0) ⟨[(4,(.ptr 1 0)),(5,y0),(11,(.ptr 19 0))],[(1,.row [(ss []),ns,ns,y0,(ss []),ns,ff,ns,ff]),(19,.row [x2,v6,v7,x3,x4,v8,x5,(.su 23 x10 6),tt]),(23,.lu 11 6)],24⟩ []
 (.rule 42 [x10,x9,x8] [] []
 (.rule 58 [x10,x8] [11,6] []
 (.rule 59 [] [11,6] []
 (.rule 60 [x1,x2,x3,x4,x5] [4,6,7,8] []
 (.rule 71 [x6] [6] []
 (.rule 75 [x0,x1,x2,x3,x4,x5] [0,1,2,3,4,5,6,7,8] []
 (.leaf .ret ⟨[(4,(.ptr 1 0)),(5,y0)],[(1,.row [x2,v6,v7,x3,x4,v8,x5,(.su 23 x10 6),tt]),(23,.lu 11 6)],24⟩)
 .no)
 .no)
 .no)
 .no)
 .no)
 .no))))
 .no)
 .no)
 .no)
 .no)
 .no)
 .no))
 .no)
 (.call 34 [x0] [0,1,2,3,4,5] []
 (.one (.len 34 6)
 (.rule 28 [] [2] []
 (.rule 36 [] [4] []
 (.loop ⟨[1,1,1,1,1,1,0,1,0],⟨[(4,(.ptr 1 0)),(5,y0),(11,(.ptr 19 0)),(12,ns),(47,v6),(48,x7),(49,y0)],[(1,.row [(ss []),ns,ns,y0,(ss []),ns,ff,ns,ff]),(19,.row [x2,v6,v7,x3,x4,v8,x5,ns,ff])],21⟩,[(8,y0)],[(8,.nat)],[],[],8,y0,[],[],[.cus 13 [x8] [4] [],.cus 10 [x8] [2] [],.cus 50 [x0,x8,x1] [0,1,2,3,4,5] []],21,[]⟩
 (.two (.cmp .lss 3 y0 x7)
 (.rule 50 [x0,x1] [0,1,2,3,4,5] []
 .no
 .no)
 (.rule 50 [x0,x1] [0,1,2,3,4,5] []
 .no
 .no)))
 .no)
 .no))
 (.one (.len 34 6)
 (.rule 52 [] [] []
 (.rule 53 [] [10,6] []
 (.rule 28 [] [2] []
 (.rule 36 [] [4] []
 (.rule 40 [] [] []
 (.rule 31 [] [6] []
 (.loop ⟨[1,1,1,1,1,1,0,1,0],⟨[(4,(.ptr 1 0)),(5,y0),(11,(.ptr 19 0)),(12,v9),(47,v6),(48,x8),(49,x9)],[(1,.row [(ss []),ns,ns,y0,(ss []),ns,ff,ns,ff]),(19,.row [x2,v6,v7,x3,x4,v8,x5,(.su 23 x10 6),ff]),(23,.lu 11 6)],24⟩,[(9,y0),(10,y0)],[(9,.nat),(10,.nat)],[],[],9,x8,[(11,10)],[(11,104)],[.cus 15 [x9,x9] [] [],.cus 15 [x9,x10] [] [],.cus 15 [x10,x9] [] [],.cus 15 [x10,x10] [] [],.cus 116 [] [11,6] [],.len x10 11],23,[(23,1046)]⟩
 (.two (.cmp .lss 3 x9 x8)
 (.one (.row 34 6 x9)
 (.rule 49 [x0,x1,x2,x3,x4,x5,x7] [0,1,2,3,4,5,6,7,8] []
 (.rule 51 [x7,x8] [9,6] []
 (.one (.row 127 9 x9)
 (.rule 45 [x9,x14] [9] []
 (.call 35 [x14] [] []
 (.two (.eqi 3 x13 y1)
 (.rule 54 [x10,x9,x8,x13,x14,x15,x16,x11,x12] [11,6] []
 (.one (.inc 3 x9 x8)
 (.rule 41 [x9,x9,x18,x18] [] []
 (.rule 41 [x9,x10,x18,x17] [] []
 (.rule 41 [x10,x9,x17,x18] [] []
 (.rule 41 [x10,x10,x17,x17] [] []
 (.again [(9,x18),(10,x17)] [] [(11,12)] [(23,52)])
 .no)
 .no)
 .no)
 .no))
 .no)
 (.two (.eqi 3 x13 y2)
 (.rule 55 [x10,x9,x8,x13,x14,(nk .u64 0),(nk .u64 0),x11,x12] [11,6] []
 (.one (.inc 3 x9 x8)
 (.rule 41 [x9,x9,x18,x18] [] []
 (.rule 41 [x9,x10,x18,x17] [] []
 (.rule 41 [x10,x9,x17,x18] [] []
 (.rule 41 [x10,x10,x17,x17] [] []
 (.again [(9,x18),(10,x17)] [] [(11,12)] [(23,52)])
 .no)
 .no)
 .no)
 .no))
 .no)
 (.two (.eqi 3 x13 y3)
 (.rule 56 [x10,x9,x8,x13,x14,x15,x16,x11,x12] [11,6] []
 (.one (.inc 3 x9 x8)
 (.rule 41 [x9,x9,x18,x18] [] []
 (.rule 41 [x9,x10,x18,x17] [] []
 (.rule 41 [x10,x9,x17,x18] [] []
 (.rule 41 [x10,x10,x17,x17] [] []
 (.again [(9,x18),(10,x17)] [] [(11,12)] [(23,52)])
 .no)
 .no)
 .no)
 .no))
 .no)
 (.two (.eqi 3 x13 y4)
 (.rule 57 [x10,x9,x8,x13,x14,x15,x16,x11,x12] [11,6] []
 (.one (.inc 3 x9 x8)
 (.rule 41 [x9,x9,x18,x18] [] []
 (.rule 41 [x9,x10,x18,x17] [] []
 (.rule 41 [x10,x9,x17,x18] [] []
 (.rule 41 [x10,x10,x17,x17] [] []
 (.again [(9,x18),(10,x17)] [] [(11,12)] [(23,52)])
 .no)
 .no)
 .no)
 .no))
 .no)
 (.rule 60 [x1,x2,x3,x4,x5] [4,6,7,8] []
 (.rule 61 [x9,x11,x12,x13] [6] []
 (.rule 62 [x13] [] []
 .no
 .no)
 .no)
 .no)))))
 .no
 .no)
 .no))
 .no)
 .no))
 (.brk (.exit 0) ⟨[(4,(.ptr 1 0)),(5,y0),(11,(.ptr 19 0))],[(1,.row [(ss []),ns,ns,y0,(ss []),ns,ff,ns,ff]),(19,.row [x2,v6,v7,x3,x4,v8,x5,(.su 23 x10 6),ff]),(23,.lu 11 6)],24⟩ []
 (.rule 42 [x10,x9,x8] [] []
 (.rule 58 [x10,x8] [11,6] []
 (.rule 59 [] [11,6] []
 (.rule 60 [x1,x2,x3,x4,x5] [4,6,7,8] []
 (.rule 72 [] [6] []
 (.rule 75 [x0,x1,x2,x3,x4,x5] [0,1,2,3,4,5,6,7,8] []
 (.leaf .ret ⟨[(4,(.ptr 1 0)),(5,y0)],[(1,.row [x2,v6,v7,x3,x4,v8,x5,(.su 23 x10 6),ff]),(23,.lu 11 6)],24⟩)
 .no)
 .no)
 .no)
 .no)
 .no)
 .no))))
 .no)
 .no)
 .no)
 .no)
 .no)
 .no))
 .no))
 .no
 .no)
 .no
 .no)
 .no
 .no)
 .no
 .no))
 (.leaf .ret ⟨[(4,(.ptr 1 0)),(5,y110)],[(1,.row [(ss []),ns,ns,y0,(ss []),ns,ff,ns,ff])],12⟩))
 .no
 .no)
 .no)
def f_of:List Fit:=[⟨0,[y90],[],[]⟩,⟨1,[x2,x3,x4,x5,x10],[6,7,8,11],[]⟩,⟨2,[x2,x3,x4,x5,x10],[6,7,8,11],[]⟩,⟨0,[y110],[],[]⟩]
def C_ofP:Con:=(C_of.freeze Z_of).fn 51
def p_of:List Con:=[C_ixHP,C_ixAP,C_ixTP,C_ixFP,C_ixKP,C_ixSP,C_headerAtP,C_actionAtP,C_tableAtP,C_fieldAtP,C_fieldOfP,C_fitsP,C_plainP,C_containsP,C_isNameP,C_nameP,C_fieldsP,C_headersP,C_WidthP,C_KindP,C_CallP,C_stepP,C_actionsP,C_tablesP,C_testP,C_stageP,C_walkTTP,C_walkTFP,C_tallP,C_walkSP,C_walkS0P,C_roundsP,C_statesP,C_CheckP,C_WidthsP,C_kindsP,C_cloKP,C_cloSP,C_cloBP]
def L_of:Nat->Prop:=Lf C_of p_of t_of [] false
def C_ones:Con:=⟨65,[.int .i64],[],0,[x0],[],0,[.cmp .geq x0 y0 true,.cmp .leq x0 y128 true],[⟨[.int .u64,.int .u64],[],0,[],(.ret (.agg [x1,x2])),[],1⟩]⟩
def t_ones:Tree:=(.two (.cmp .gtr 3 x0 y64)
 (.one (.subc 3 x0 y64)
 (.one (.sh .shl 52 (nk .u64 1) x1)
 (.one (.ari .sub 52 x2 (nk .u64 1))
 (.leaf .ret ⟨[(2,(.ptr 0 0))],[(0,.row [x3,(nk .u64 18446744073709551615)])],1⟩))))
 (.one (.sh .shl 52 (nk .u64 1) x0)
 (.one (.ari .sub 52 x1 (nk .u64 1))
 (.leaf .ret ⟨[(2,(.ptr 0 0))],[(0,.row [(nk .u64 0),x2])],1⟩))))
def f_ones:List Fit:=[⟨0,[x3,(nk .u64 18446744073709551615)],[],[]⟩,⟨0,[(nk .u64 0),x2],[],[]⟩]
def C_onesP:Con:=C_ones
def p_ones:List Con:=[C_ixHP,C_ixAP,C_ixTP,C_ixFP,C_ixKP,C_ixSP,C_headerAtP,C_actionAtP,C_tableAtP,C_fieldAtP,C_fieldOfP,C_fitsP,C_plainP,C_containsP,C_isNameP,C_nameP,C_fieldsP,C_headersP,C_WidthP,C_KindP,C_CallP,C_stepP,C_actionsP,C_tablesP,C_testP,C_stageP,C_walkTTP,C_walkTFP,C_tallP,C_walkSP,C_walkS0P,C_roundsP,C_statesP,C_CheckP,C_WidthsP,C_kindsP,C_cloKP,C_cloSP,C_cloBP,C_ofP]
def L_ones:Nat->Prop:=Lf C_ones p_ones t_ones [] false
def C_may1:Con:=⟨107,[.int .u64,.int .u64,.int .u64,.int .u64,.int .i64,.int .u64,.int .u64],[],0,[(.agg [x0,x1,x2,x3,x4]),(.fp [(.fn (.func 105) [] [(.fp [x5,x6] 0)])] 0)],[],0,[],[⟨[],[],0,[.cus 130 [x0,x1,x2,x3,x4] [] []],(.ret tt),[],0⟩,
 ⟨[],[],0,[],(.ret ff),[],0⟩]⟩
def t_may1:Tree:=(.one (.ari .and 52 x0 x5)
 (.one (.ari .and 52 x1 x6)
 (.two (.eqi 52 x7 x0)
 (.two (.eqi 52 x8 x1)
 (.two (.eqi 52 x0 x0)
 (.two (.eqi 52 x1 x1)
 (.two (.eqi 52 x2 (nk .u64 0))
 (.two (.eqi 52 x3 (nk .u64 0))
 (.two (.eqi 3 x4 y0)
 (.rule 96 [x0,x1,x2,x3,x4] [] []
 (.leaf .ret ⟨[(3,tt)],[],0⟩)
 .no)
 (.leaf .ret ⟨[(3,ff)],[],0⟩))
 (.leaf .ret ⟨[(3,ff)],[],0⟩))
 (.leaf .ret ⟨[(3,ff)],[],0⟩))
 (.leaf .ret ⟨[(3,ff)],[],0⟩))
 (.leaf .ret ⟨[(3,ff)],[],0⟩))
 (.leaf .ret ⟨[(3,ff)],[],0⟩))
 (.leaf .ret ⟨[(3,ff)],[],0⟩))))
def f_may1:List Fit:=[⟨0,[],[],[]⟩,⟨1,[],[],[]⟩,⟨1,[],[],[]⟩,⟨1,[],[],[]⟩,⟨1,[],[],[]⟩,⟨1,[],[],[]⟩,⟨1,[],[],[]⟩,⟨1,[],[],[]⟩]
def C_may1P:Con:=C_may1
def p_may1:List Con:=[C_ixHP,C_ixAP,C_ixTP,C_ixFP,C_ixKP,C_ixSP,C_headerAtP,C_actionAtP,C_tableAtP,C_fieldAtP,C_fieldOfP,C_fitsP,C_plainP,C_containsP,C_isNameP,C_nameP,C_fieldsP,C_headersP,C_WidthP,C_KindP,C_CallP,C_stepP,C_actionsP,C_tablesP,C_testP,C_stageP,C_walkTTP,C_walkTFP,C_tallP,C_walkSP,C_walkS0P,C_roundsP,C_statesP,C_CheckP,C_WidthsP,C_kindsP,C_cloKP,C_cloSP,C_cloBP,C_ofP,C_onesP]
def L_may1:Nat->Prop:=Lf C_may1 p_may1 t_may1 [] false
def C_may2:Con:=⟨109,[.int .u64,.int .u64,.int .u64,.int .u64,.int .i64,.int .i64],[],0,[(.agg [x0,x1,x2,x3,x4]),(.fp [x5] 0),(.fp [(nk .u64 0),(nk .u64 0)] 0)],[],0,[.cmp .geq x5 y0 true,.cmp .leq x5 y128 true],[⟨[],[],0,[.cus 131 [x4,x5] [] []],(.ret tt),[],0⟩,
 ⟨[],[],0,[],(.ret ff),[],0⟩]⟩
def t_may2:Tree:=(.two (.cmp .geq 3 x4 y0)
 (.two (.cmp .leq 3 x4 x5)
 (.two (.eqa .eql 54 [x2,x3] [(nk .u64 0),(nk .u64 0)])
 (.call 40 [x5] [] []
 (.one (.subn 3 x5 x4)
 (.call 40 [x8] [] []
 (.one (.ari .andNot 52 x6 x9)
 (.one (.ari .andNot 52 x7 x10)
 (.one (.ari .and 52 x0 x11)
 (.one (.ari .and 52 x1 x12)
 (.two (.eqa .eql 54 [x13,x14] [x0,x1])
 (.rule 97 [x4,x5] [] []
 (.leaf .ret ⟨[(4,tt)],[],0⟩)
 .no)
 (.rule 97 [x4,x5] [] []
 (.leaf .ret ⟨[(4,ff)],[],0⟩)
 .no))))))
 .no
 .no))
 .no
 .no)
 (.rule 97 [x4,x5] [] []
 (.leaf .ret ⟨[(4,ff)],[],0⟩)
 .no))
 (.leaf .ret ⟨[(4,ff)],[],0⟩))
 (.leaf .ret ⟨[(4,ff)],[],0⟩))
def f_may2:List Fit:=[⟨0,[],[],[]⟩,⟨1,[],[],[]⟩,⟨1,[],[],[]⟩,⟨1,[],[],[]⟩,⟨1,[],[],[]⟩]
def C_may2P:Con:=C_may2
def p_may2:List Con:=[C_ixHP,C_ixAP,C_ixTP,C_ixFP,C_ixKP,C_ixSP,C_headerAtP,C_actionAtP,C_tableAtP,C_fieldAtP,C_fieldOfP,C_fitsP,C_plainP,C_containsP,C_isNameP,C_nameP,C_fieldsP,C_headersP,C_WidthP,C_KindP,C_CallP,C_stepP,C_actionsP,C_tablesP,C_testP,C_stageP,C_walkTTP,C_walkTFP,C_tallP,C_walkSP,C_walkS0P,C_roundsP,C_statesP,C_CheckP,C_WidthsP,C_kindsP,C_cloKP,C_cloSP,C_cloBP,C_ofP,C_onesP,C_may1P]
def L_may2:Nat->Prop:=Lf C_may2 p_may2 t_may2 [] false
def C_may3:Con:=⟨114,[.int .u64,.int .u64,.int .u64,.int .u64,.int .i64,.int .u64,.int .u64],[],0,[(.agg [x0,x1,x2,x3,x4]),(.fp [(.fn (.func 105) [] [(.fp [x5,x6] 0)])] 0)],[],0,[],[⟨[],[],0,[],(.ret tt),[],0⟩,
 ⟨[],[],0,[],(.ret ff),[],0⟩]⟩
def t_may3:Tree:=(.two (.cmp .eql 3 x4 y0)
 (.one (.ari .and 52 x2 x5)
 (.one (.ari .and 52 x3 x6)
 (.two (.eqa .eql 54 [x7,x8] [x2,x3])
 (.one (.ari .and 52 x0 x2)
 (.one (.ari .and 52 x1 x3)
 (.two (.eqa .eql 54 [x9,x10] [x0,x1])
 (.leaf .ret ⟨[(3,tt)],[],0⟩)
 (.leaf .ret ⟨[(3,ff)],[],0⟩))))
 (.leaf .ret ⟨[(3,ff)],[],0⟩))))
 (.leaf .ret ⟨[(3,ff)],[],0⟩))
def f_may3:List Fit:=[⟨0,[],[],[]⟩,⟨1,[],[],[]⟩,⟨1,[],[],[]⟩,⟨1,[],[],[]⟩]
def C_may3P:Con:=C_may3
def p_may3:List Con:=[C_ixHP,C_ixAP,C_ixTP,C_ixFP,C_ixKP,C_ixSP,C_headerAtP,C_actionAtP,C_tableAtP,C_fieldAtP,C_fieldOfP,C_fitsP,C_plainP,C_containsP,C_isNameP,C_nameP,C_fieldsP,C_headersP,C_WidthP,C_KindP,C_CallP,C_stepP,C_actionsP,C_tablesP,C_testP,C_stageP,C_walkTTP,C_walkTFP,C_tallP,C_walkSP,C_walkS0P,C_roundsP,C_statesP,C_CheckP,C_WidthsP,C_kindsP,C_cloKP,C_cloSP,C_cloBP,C_ofP,C_onesP,C_may1P,C_may2P]
def L_may3:Nat->Prop:=Lf C_may3 p_may3 t_may3 [] false
def C_may4:Con:=⟨118,[.int .u64,.int .u64,.int .u64,.int .u64,.int .i64,.int .u64,.int .u64],[],0,[(.agg [x0,x1,x2,x3,x4]),(.fp [(.fn (.func 105) [] [(.fp [x5,x6] 0)])] 0)],[],0,[],[⟨[],[],0,[],(.ret ff),[],0⟩,
 ⟨[],[],0,[],(.ret tt),[],0⟩]⟩
def t_may4:Tree:=(.two (.cmp .eql 3 x4 y0)
 (.one (.ari .and 52 x2 x5)
 (.one (.ari .and 52 x3 x6)
 (.two (.eqa .eql 54 [x7,x8] [x2,x3])
 (.two (.cmp .lss 52 x2 x0)
 (.leaf .ret ⟨[(3,ff)],[],0⟩)
 (.two (.cmp .eql 52 x2 x0)
 (.two (.cmp .lss 52 x3 x1)
 (.leaf .ret ⟨[(3,ff)],[],0⟩)
 (.leaf .ret ⟨[(3,tt)],[],0⟩))
 (.leaf .ret ⟨[(3,tt)],[],0⟩)))
 (.leaf .ret ⟨[(3,ff)],[],0⟩))))
 (.leaf .ret ⟨[(3,ff)],[],0⟩))
def f_may4:List Fit:=[⟨0,[],[],[]⟩,⟨0,[],[],[]⟩,⟨1,[],[],[]⟩,⟨1,[],[],[]⟩,⟨0,[],[],[]⟩,⟨0,[],[],[]⟩]
def C_may4P:Con:=C_may4
def p_may4:List Con:=[C_ixHP,C_ixAP,C_ixTP,C_ixFP,C_ixKP,C_ixSP,C_headerAtP,C_actionAtP,C_tableAtP,C_fieldAtP,C_fieldOfP,C_fitsP,C_plainP,C_containsP,C_isNameP,C_nameP,C_fieldsP,C_headersP,C_WidthP,C_KindP,C_CallP,C_stepP,C_actionsP,C_tablesP,C_testP,C_stageP,C_walkTTP,C_walkTFP,C_tallP,C_walkSP,C_walkS0P,C_roundsP,C_statesP,C_CheckP,C_WidthsP,C_kindsP,C_cloKP,C_cloSP,C_cloBP,C_ofP,C_onesP,C_may1P,C_may2P,C_may3P]
def L_may4:Nat->Prop:=Lf C_may4 p_may4 t_may4 [] false
def C_hits1:Con:=⟨108,[.int .u64,.int .u64,.int .u64,.int .u64,.int .i64,.int .u64,.int .u64],[],0,[(.agg [x0,x1,x2,x3,x4]),(.agg [x5,x6])],[],0,[],[⟨[],[],0,[.cus 132 [x0,x1,x5,x6] [] []],(.ret tt),[],0⟩,
 ⟨[],[],0,[],(.ret ff),[],0⟩]⟩
def t_hits1:Tree:=(.two (.eqi 52 x0 x5)
 (.two (.eqi 52 x1 x6)
 (.rule 98 [x0,x1,x5,x6] [] []
 (.leaf .ret ⟨[(4,tt)],[],0⟩)
 .no)
 (.leaf .ret ⟨[(4,ff)],[],0⟩))
 (.leaf .ret ⟨[(4,ff)],[],0⟩))
def f_hits1:List Fit:=[⟨0,[],[],[]⟩,⟨1,[],[],[]⟩,⟨1,[],[],[]⟩]
def C_hits1P:Con:=C_hits1
def p_hits1:List Con:=[C_ixHP,C_ixAP,C_ixTP,C_ixFP,C_ixKP,C_ixSP,C_headerAtP,C_actionAtP,C_tableAtP,C_fieldAtP,C_fieldOfP,C_fitsP,C_plainP,C_containsP,C_isNameP,C_nameP,C_fieldsP,C_headersP,C_WidthP,C_KindP,C_CallP,C_stepP,C_actionsP,C_tablesP,C_testP,C_stageP,C_walkTTP,C_walkTFP,C_tallP,C_walkSP,C_walkS0P,C_roundsP,C_statesP,C_CheckP,C_WidthsP,C_kindsP,C_cloKP,C_cloSP,C_cloBP,C_ofP,C_onesP,C_may1P,C_may2P,C_may3P,C_may4P]
def L_hits1:Nat->Prop:=Lf C_hits1 p_hits1 t_hits1 [] false
def C_hits2:Con:=⟨111,[.int .u64,.int .u64,.int .u64,.int .u64,.int .i64,.int .u64,.int .u64,.int .i64],[],0,[(.agg [x0,x1,x2,x3,x4]),(.agg [x5,x6]),(.fp [x7] 0)],[],0,[.cmp .geq x7 y0 true,.cmp .leq x7 y128 true,.cus 131 [x4,x7] [] []],[⟨[],[],0,[],(.ret tt),[],0⟩,
 ⟨[],[],0,[],(.ret ff),[],0⟩]⟩
def t_hits2:Tree:=(.call 40 [x7] [] []
 (.rule 99 [x4,x7] [] []
 (.one (.subn 3 x7 x4)
 (.call 40 [x10] [] []
 (.one (.ari .andNot 52 x8 x11)
 (.one (.ari .andNot 52 x9 x12)
 (.one (.ari .and 52 x5 x13)
 (.one (.ari .and 52 x6 x14)
 (.two (.eqa .eql 54 [x15,x16] [x0,x1])
 (.leaf .ret ⟨[(5,tt)],[],0⟩)
 (.leaf .ret ⟨[(5,ff)],[],0⟩))))))
 .no
 .no))
 .no)
 .no
 .no)
def f_hits2:List Fit:=[⟨0,[],[],[]⟩,⟨1,[],[],[]⟩]
def C_hits2P:Con:=C_hits2
def p_hits2:List Con:=[C_ixHP,C_ixAP,C_ixTP,C_ixFP,C_ixKP,C_ixSP,C_headerAtP,C_actionAtP,C_tableAtP,C_fieldAtP,C_fieldOfP,C_fitsP,C_plainP,C_containsP,C_isNameP,C_nameP,C_fieldsP,C_headersP,C_WidthP,C_KindP,C_CallP,C_stepP,C_actionsP,C_tablesP,C_testP,C_stageP,C_walkTTP,C_walkTFP,C_tallP,C_walkSP,C_walkS0P,C_roundsP,C_statesP,C_CheckP,C_WidthsP,C_kindsP,C_cloKP,C_cloSP,C_cloBP,C_ofP,C_onesP,C_may1P,C_may2P,C_may3P,C_may4P,C_hits1P]
def L_hits2:Nat->Prop:=Lf C_hits2 p_hits2 t_hits2 [] false
def C_hits3:Con:=⟨115,[.int .u64,.int .u64,.int .u64,.int .u64,.int .i64,.int .u64,.int .u64],[],0,[(.agg [x0,x1,x2,x3,x4]),(.agg [x5,x6])],[],0,[],[⟨[],[],0,[],(.ret tt),[],0⟩,
 ⟨[],[],0,[],(.ret ff),[],0⟩]⟩
def t_hits3:Tree:=(.one (.ari .and 52 x5 x2)
 (.one (.ari .and 52 x6 x3)
 (.two (.eqa .eql 54 [x7,x8] [x0,x1])
 (.leaf .ret ⟨[(4,tt)],[],0⟩)
 (.leaf .ret ⟨[(4,ff)],[],0⟩))))
def f_hits3:List Fit:=[⟨0,[],[],[]⟩,⟨1,[],[],[]⟩]
def C_hits3P:Con:=C_hits3
def p_hits3:List Con:=[C_ixHP,C_ixAP,C_ixTP,C_ixFP,C_ixKP,C_ixSP,C_headerAtP,C_actionAtP,C_tableAtP,C_fieldAtP,C_fieldOfP,C_fitsP,C_plainP,C_containsP,C_isNameP,C_nameP,C_fieldsP,C_headersP,C_WidthP,C_KindP,C_CallP,C_stepP,C_actionsP,C_tablesP,C_testP,C_stageP,C_walkTTP,C_walkTFP,C_tallP,C_walkSP,C_walkS0P,C_roundsP,C_statesP,C_CheckP,C_WidthsP,C_kindsP,C_cloKP,C_cloSP,C_cloBP,C_ofP,C_onesP,C_may1P,C_may2P,C_may3P,C_may4P,C_hits1P,C_hits2P]
def L_hits3:Nat->Prop:=Lf C_hits3 p_hits3 t_hits3 [] false
def C_hits4:Con:=⟨120,[.int .u64,.int .u64,.int .u64,.int .u64,.int .i64,.int .u64,.int .u64],[],0,[(.agg [x0,x1,x2,x3,x4]),(.agg [x5,x6])],[],0,[],[⟨[],[],0,[],(.ret ff),[],0⟩,
 ⟨[],[],0,[],(.ret tt),[],0⟩]⟩
def t_hits4:Tree:=(.two (.cmp .lss 52 x5 x0)
 (.leaf .ret ⟨[(4,ff)],[],0⟩)
 (.two (.cmp .eql 52 x5 x0)
 (.two (.cmp .lss 52 x6 x1)
 (.leaf .ret ⟨[(4,ff)],[],0⟩)
 (.two (.cmp .lss 52 x2 x5)
 (.leaf .ret ⟨[(4,ff)],[],0⟩)
 (.two (.cmp .eql 52 x2 x5)
 (.two (.cmp .lss 52 x3 x6)
 (.leaf .ret ⟨[(4,ff)],[],0⟩)
 (.leaf .ret ⟨[(4,tt)],[],0⟩))
 (.leaf .ret ⟨[(4,tt)],[],0⟩))))
 (.two (.cmp .lss 52 x2 x5)
 (.leaf .ret ⟨[(4,ff)],[],0⟩)
 (.two (.cmp .eql 52 x2 x5)
 (.two (.cmp .lss 52 x3 x6)
 (.leaf .ret ⟨[(4,ff)],[],0⟩)
 (.leaf .ret ⟨[(4,tt)],[],0⟩))
 (.leaf .ret ⟨[(4,tt)],[],0⟩)))))
def f_hits4:List Fit:=[⟨0,[],[],[]⟩,⟨0,[],[],[]⟩,⟨0,[],[],[]⟩,⟨0,[],[],[]⟩,⟨1,[],[],[]⟩,⟨1,[],[],[]⟩,⟨0,[],[],[]⟩,⟨0,[],[],[]⟩,⟨1,[],[],[]⟩,⟨1,[],[],[]⟩]
def C_hits4P:Con:=C_hits4
def p_hits4:List Con:=[C_ixHP,C_ixAP,C_ixTP,C_ixFP,C_ixKP,C_ixSP,C_headerAtP,C_actionAtP,C_tableAtP,C_fieldAtP,C_fieldOfP,C_fitsP,C_plainP,C_containsP,C_isNameP,C_nameP,C_fieldsP,C_headersP,C_WidthP,C_KindP,C_CallP,C_stepP,C_actionsP,C_tablesP,C_testP,C_stageP,C_walkTTP,C_walkTFP,C_tallP,C_walkSP,C_walkS0P,C_roundsP,C_statesP,C_CheckP,C_WidthsP,C_kindsP,C_cloKP,C_cloSP,C_cloBP,C_ofP,C_onesP,C_may1P,C_may2P,C_may3P,C_may4P,C_hits1P,C_hits2P,C_hits3P]
def L_hits4:Nat->Prop:=Lf C_hits4 p_hits4 t_hits4 [] false
def C_who:Con:=⟨26,[.str 1048576,.int .i64,.str 1048576,.boo,.boo,.int .i64,.str 1048576],[10,11,7,104,12,7],0,[(.agg [x0,v0,v1,x1,x2,v2,x3,v3,x4]),(.agg [v4,x5,x6,v5])],[],0,[.cus 118 [] [3] []],[⟨[.nat],[],0,[.cmp .geq x7 y0 true,.cmp .geq x7 y1 true,.cmp .leq x7 y128 true],(.ret x7),[],0⟩,
 ⟨[],[],0,[.cus 124 [] [3,4] [],.cus 128 [x5,x4] [] []],(.ret y0),[],0⟩]⟩
def t_who:Tree:=(.one (.len 44 4)
 (.one (.len 69 3)
 (.two (.cmp .neq 3 x7 x8)
 (.leaf .ret ⟨[(4,y111)],[],0⟩)
 (.rule 79 [] [3,4] []
 (.loop ⟨[1,1,0,1,0],⟨[(2,(.ptr 0 0)),(3,(.ptr 1 0)),(4,y0),(17,v3),(18,x8),(19,x9)],[(0,.row [x0,v0,v1,x1,x2,v2,x3,v3,x4]),(1,.row [v4,x5,x6,v5])],2⟩,[(9,y0)],[(9,.nat)],[],[],9,x8,[],[],[.cus 123 [x9] [3,4] []],2,[]⟩
 (.two (.cmp .lss 3 x9 x8)
 (.rule 76 [x9,x8] [3] []
 (.rule 9 [x9,x8] [] []
 (.rule 77 [x9] [3] []
 (.one (.rowk 69 3 x9)
 (.one (.row 44 4 x9)
 (.call 41 [x13,x14,x15,x16,x17,x11,x12] [] []
 (.one (.inc 3 x9 x8)
 (.rule 82 [x9,x10,x11,x12,x18,x13,x14,x15,x16,x17] [3,4] []
 (.again [(9,x18)] [] [] [])
 .no))
 (.brk .ret ⟨[(2,(.ptr 0 0)),(3,(.ptr 1 0)),(4,y111)],[(0,.row [x0,v0,v1,x1,x2,v2,x3,v3,x4]),(1,.row [v4,x5,x6,v5])],2⟩ []
 (.leaf .ret ⟨[(4,y111)],[],0⟩))
 .no)))
 (.one (.rowk 69 3 x9)
 (.one (.row 44 4 x9)
 (.call 42 [x13,x14,x15,x16,x17,x10] [] []
 (.one (.inc 3 x9 x8)
 (.rule 83 [x9,x10,(nk .u64 0),(nk .u64 0),x18,x13,x14,x15,x16,x17] [3,4] []
 (.again [(9,x18)] [] [] [])
 .no))
 (.brk .ret ⟨[(2,(.ptr 0 0)),(3,(.ptr 1 0)),(4,y111)],[(0,.row [x0,v0,v1,x1,x2,v2,x3,v3,x4]),(1,.row [v4,x5,x6,v5])],2⟩ []
 (.leaf .ret ⟨[(4,y111)],[],0⟩))
 .no))))
 .no)
 (.rule 9 [x9,x8] [] []
 (.rule 78 [x9] [3] []
 (.one (.rowk 69 3 x9)
 (.one (.row 44 4 x9)
 (.call 43 [x13,x14,x15,x16,x17,x11,x12] [] []
 (.one (.inc 3 x9 x8)
 (.rule 80 [x9,x10,x11,x12,x18] [3,4] []
 (.again [(9,x18)] [] [] [])
 .no))
 (.brk .ret ⟨[(2,(.ptr 0 0)),(3,(.ptr 1 0)),(4,y111)],[(0,.row [x0,v0,v1,x1,x2,v2,x3,v3,x4]),(1,.row [v4,x5,x6,v5])],2⟩ []
 (.leaf .ret ⟨[(4,y111)],[],0⟩))
 .no)))
 (.one (.rowk 69 3 x9)
 (.one (.row 44 4 x9)
 (.call 44 [x13,x14,x15,x16,x17,x11,x12] [] []
 (.brk .ret ⟨[(2,(.ptr 0 0)),(3,(.ptr 1 0)),(4,y111)],[(0,.row [x0,v0,v1,x1,x2,v2,x3,v3,x4]),(1,.row [v4,x5,x6,v5])],2⟩ []
 (.leaf .ret ⟨[(4,y111)],[],0⟩))
 (.one (.inc 3 x9 x8)
 (.rule 81 [x9,x10,x11,x12,x18] [3,4] []
 (.again [(9,x18)] [] [] [])
 .no))
 .no))))
 .no))
 (.brk (.exit 0) ⟨[(2,(.ptr 0 0)),(3,(.ptr 1 0)),(4,y0)],[(0,.row [x0,v0,v1,x1,x2,v2,x3,v3,x4]),(1,.row [v4,x5,x6,v5])],2⟩ []
 (.two (.tf x4)
 (.loop ⟨[1,1,0,1,0],⟨[(2,(.ptr 0 0)),(3,(.ptr 1 0)),(4,y0),(17,v3),(18,x8),(19,x10)],[(0,.row [x0,v0,v1,x1,x2,v2,x3,v3,tt]),(1,.row [v4,x5,x6,v5])],2⟩,[(10,y0)],[(10,.nat)],[],[],10,x8,[],[],[.cus 123 [x10] [3,4] []],2,[]⟩
 (.two (.cmp .lss 3 x10 x8)
 (.rule 76 [x10,x8] [3] []
 (.rule 9 [x10,x8] [] []
 (.rule 77 [x10] [3] []
 (.one (.rowk 69 3 x10)
 (.one (.row 44 4 x10)
 (.call 41 [x14,x15,x16,x17,x18,x12,x13] [] []
 (.one (.inc 3 x10 x8)
 (.rule 82 [x10,x11,x12,x13,x19,x14,x15,x16,x17,x18] [3,4] []
 (.again [(10,x19)] [] [] [])
 .no))
 (.brk .ret ⟨[(2,(.ptr 0 0)),(3,(.ptr 1 0)),(4,y111)],[(0,.row [x0,v0,v1,x1,x2,v2,x3,v3,tt]),(1,.row [v4,x5,x6,v5])],2⟩ []
 (.rule 84 [x9,x8,x7] [3,4] []
 (.rule 85 [x5,x4] [] []
 (.leaf .ret ⟨[(4,y111)],[],0⟩)
 .no)
 .no))
 .no)))
 (.one (.rowk 69 3 x10)
 (.one (.row 44 4 x10)
 (.call 42 [x14,x15,x16,x17,x18,x11] [] []
 (.one (.inc 3 x10 x8)
 (.rule 83 [x10,x11,(nk .u64 0),(nk .u64 0),x19,x14,x15,x16,x17,x18] [3,4] []
 (.again [(10,x19)] [] [] [])
 .no))
 (.brk .ret ⟨[(2,(.ptr 0 0)),(3,(.ptr 1 0)),(4,y111)],[(0,.row [x0,v0,v1,x1,x2,v2,x3,v3,tt]),(1,.row [v4,x5,x6,v5])],2⟩ []
 (.rule 84 [x9,x8,x7] [3,4] []
 (.rule 85 [x5,x4] [] []
 (.leaf .ret ⟨[(4,y111)],[],0⟩)
 .no)
 .no))
 .no))))
 .no)
 (.rule 9 [x10,x8] [] []
 (.rule 78 [x10] [3] []
 (.one (.rowk 69 3 x10)
 (.one (.row 44 4 x10)
 (.call 43 [x14,x15,x16,x17,x18,x12,x13] [] []
 (.one (.inc 3 x10 x8)
 (.rule 80 [x10,x11,x12,x13,x19] [3,4] []
 (.again [(10,x19)] [] [] [])
 .no))
 (.brk .ret ⟨[(2,(.ptr 0 0)),(3,(.ptr 1 0)),(4,y111)],[(0,.row [x0,v0,v1,x1,x2,v2,x3,v3,tt]),(1,.row [v4,x5,x6,v5])],2⟩ []
 (.rule 84 [x9,x8,x7] [3,4] []
 (.rule 85 [x5,x4] [] []
 (.leaf .ret ⟨[(4,y111)],[],0⟩)
 .no)
 .no))
 .no)))
 (.one (.rowk 69 3 x10)
 (.one (.row 44 4 x10)
 (.call 44 [x14,x15,x16,x17,x18,x12,x13] [] []
 (.brk .ret ⟨[(2,(.ptr 0 0)),(3,(.ptr 1 0)),(4,y111)],[(0,.row [x0,v0,v1,x1,x2,v2,x3,v3,tt]),(1,.row [v4,x5,x6,v5])],2⟩ []
 (.rule 84 [x9,x8,x7] [3,4] []
 (.rule 85 [x5,x4] [] []
 (.leaf .ret ⟨[(4,y111)],[],0⟩)
 .no)
 .no))
 (.one (.inc 3 x10 x8)
 (.rule 81 [x10,x11,x12,x13,x19] [3,4] []
 (.again [(10,x19)] [] [] [])
 .no))
 .no))))
 .no))
 (.brk (.exit 0) ⟨[(2,(.ptr 0 0)),(3,(.ptr 1 0)),(4,y0)],[(0,.row [x0,v0,v1,x1,x2,v2,x3,v3,tt]),(1,.row [v4,x5,x6,v5])],2⟩ []
 (.two (.cmp .lss 3 x5 y1)
 (.rule 84 [x10,x8,x7] [3,4] []
 (.rule 85 [x5,x4] [] []
 (.leaf .ret ⟨[(4,y112)],[],0⟩)
 .no)
 .no)
 (.two (.cmp .gtr 3 x5 (nn 16777216))
 (.rule 84 [x10,x8,x7] [3,4] []
 (.rule 85 [x5,x4] [] []
 (.leaf .ret ⟨[(4,y112)],[],0⟩)
 .no)
 .no)
 (.rule 84 [x10,x8,x7] [3,4] []
 (.rule 85 [x5,x4] [] []
 (.leaf .ret ⟨[(4,y0)],[],0⟩)
 .no)
 .no))))))
 (.loop ⟨[1,1,0,1,0],⟨[(2,(.ptr 0 0)),(3,(.ptr 1 0)),(4,y0),(17,v3),(18,x8),(19,x10)],[(0,.row [x0,v0,v1,x1,x2,v2,x3,v3,ff]),(1,.row [v4,x5,x6,v5])],2⟩,[(10,y0)],[(10,.nat)],[],[],10,x8,[],[],[.cus 123 [x10] [3,4] []],2,[]⟩
 (.two (.cmp .lss 3 x10 x8)
 (.rule 76 [x10,x8] [3] []
 (.rule 9 [x10,x8] [] []
 (.rule 77 [x10] [3] []
 (.one (.rowk 69 3 x10)
 (.one (.row 44 4 x10)
 (.call 41 [x14,x15,x16,x17,x18,x12,x13] [] []
 (.one (.inc 3 x10 x8)
 (.rule 82 [x10,x11,x12,x13,x19,x14,x15,x16,x17,x18] [3,4] []
 (.again [(10,x19)] [] [] [])
 .no))
 (.brk .ret ⟨[(2,(.ptr 0 0)),(3,(.ptr 1 0)),(4,y111)],[(0,.row [x0,v0,v1,x1,x2,v2,x3,v3,ff]),(1,.row [v4,x5,x6,v5])],2⟩ []
 (.rule 84 [x9,x8,x7] [3,4] []
 (.leaf .ret ⟨[(4,y111)],[],0⟩)
 .no))
 .no)))
 (.one (.rowk 69 3 x10)
 (.one (.row 44 4 x10)
 (.call 42 [x14,x15,x16,x17,x18,x11] [] []
 (.one (.inc 3 x10 x8)
 (.rule 83 [x10,x11,(nk .u64 0),(nk .u64 0),x19,x14,x15,x16,x17,x18] [3,4] []
 (.again [(10,x19)] [] [] [])
 .no))
 (.brk .ret ⟨[(2,(.ptr 0 0)),(3,(.ptr 1 0)),(4,y111)],[(0,.row [x0,v0,v1,x1,x2,v2,x3,v3,ff]),(1,.row [v4,x5,x6,v5])],2⟩ []
 (.rule 84 [x9,x8,x7] [3,4] []
 (.leaf .ret ⟨[(4,y111)],[],0⟩)
 .no))
 .no))))
 .no)
 (.rule 9 [x10,x8] [] []
 (.rule 78 [x10] [3] []
 (.one (.rowk 69 3 x10)
 (.one (.row 44 4 x10)
 (.call 43 [x14,x15,x16,x17,x18,x12,x13] [] []
 (.one (.inc 3 x10 x8)
 (.rule 80 [x10,x11,x12,x13,x19] [3,4] []
 (.again [(10,x19)] [] [] [])
 .no))
 (.brk .ret ⟨[(2,(.ptr 0 0)),(3,(.ptr 1 0)),(4,y111)],[(0,.row [x0,v0,v1,x1,x2,v2,x3,v3,ff]),(1,.row [v4,x5,x6,v5])],2⟩ []
 (.rule 84 [x9,x8,x7] [3,4] []
 (.leaf .ret ⟨[(4,y111)],[],0⟩)
 .no))
 .no)))
 (.one (.rowk 69 3 x10)
 (.one (.row 44 4 x10)
 (.call 44 [x14,x15,x16,x17,x18,x12,x13] [] []
 (.brk .ret ⟨[(2,(.ptr 0 0)),(3,(.ptr 1 0)),(4,y111)],[(0,.row [x0,v0,v1,x1,x2,v2,x3,v3,ff]),(1,.row [v4,x5,x6,v5])],2⟩ []
 (.rule 84 [x9,x8,x7] [3,4] []
 (.leaf .ret ⟨[(4,y111)],[],0⟩)
 .no))
 (.one (.inc 3 x10 x8)
 (.rule 81 [x10,x11,x12,x13,x19] [3,4] []
 (.again [(10,x19)] [] [] [])
 .no))
 .no))))
 .no))
 (.brk (.exit 0) ⟨[(2,(.ptr 0 0)),(3,(.ptr 1 0)),(4,y0)],[(0,.row [x0,v0,v1,x1,x2,v2,x3,v3,ff]),(1,.row [v4,x5,x6,v5])],2⟩ []
 (.two (.cmp .lss 3 x5 y0)
 (.rule 84 [x10,x8,x7] [3,4] []
 (.leaf .ret ⟨[(4,y112)],[],0⟩)
 .no)
 (.two (.cmp .gtr 3 x5 y0)
 (.rule 84 [x10,x8,x7] [3,4] []
 (.leaf .ret ⟨[(4,y112)],[],0⟩)
 .no)
 (.rule 84 [x10,x8,x7] [3,4] []
 (.rule 86 [x5,x4] [] []
 (.leaf .ret ⟨[(4,y0)],[],0⟩)
 .no)
 .no))))))))))
 .no))))
def f_who:List Fit:=[⟨0,[y111],[],[]⟩,⟨0,[y111],[],[]⟩,⟨0,[y111],[],[]⟩,⟨0,[y111],[],[]⟩,⟨0,[y111],[],[]⟩,⟨0,[y111],[],[]⟩,⟨0,[y111],[],[]⟩,⟨0,[y111],[],[]⟩,⟨0,[y111],[],[]⟩,⟨0,[y112],[],[]⟩,⟨0,[y112],[],[]⟩,⟨1,[],[],[]⟩,⟨0,[y111],[],[]⟩,⟨0,[y111],[],[]⟩,⟨0,[y111],[],[]⟩,⟨0,[y111],[],[]⟩,⟨0,[y112],[],[]⟩,⟨0,[y112],[],[]⟩,⟨1,[],[],[]⟩]
def C_whoP:Con:=C_who.fn 52
def p_who:List Con:=[C_ixHP,C_ixAP,C_ixTP,C_ixFP,C_ixKP,C_ixSP,C_headerAtP,C_actionAtP,C_tableAtP,C_fieldAtP,C_fieldOfP,C_fitsP,C_plainP,C_containsP,C_isNameP,C_nameP,C_fieldsP,C_headersP,C_WidthP,C_KindP,C_CallP,C_stepP,C_actionsP,C_tablesP,C_testP,C_stageP,C_walkTTP,C_walkTFP,C_tallP,C_walkSP,C_walkS0P,C_roundsP,C_statesP,C_CheckP,C_WidthsP,C_kindsP,C_cloKP,C_cloSP,C_cloBP,C_ofP,C_onesP,C_may1P,C_may2P,C_may3P,C_may4P,C_hits1P,C_hits2P,C_hits3P,C_hits4P]
def L_who:Nat->Prop:=Lf C_who p_who t_who [] false
def C_allK:Con:=⟨57,[.str 1048576,.int .i64,.str 1048576,.boo,.boo],[10,11,7,104,7],0,[(.agg [x0,v0,v1,x1,x2,v2,x3,v3,x4]),(.fn (.func 63) [] [(.ptr 0 0)])],[(0,.row [v4])],1,[.cus 118 [] [3] [],.cus 127 [] [3,4] []],[⟨[],[],0,[],(.ret ff),[(0,.row [v4])],1⟩,
 ⟨[],[],0,[],(.ret tt),[(0,.row [v4])],1⟩]⟩
def t_allK:Tree:=(.one (.len 69 3)
 (.loop ⟨[1,0,1,0],⟨[(1,(.fn (.func 63) [] [(.ptr 0 0)])),(4,ff),(8,v3),(9,x5),(10,x6)],[(0,.row [v4])],2⟩,[(6,y0)],[(6,.nat)],[],[],6,x5,[],[],[],2,[]⟩
 (.two (.cmp .lss 3 x6 x5)
 (.rule 76 [x6,x5] [3] []
 (.rule 9 [x6,x5] [] []
 (.rule 77 [x6] [3] []
 (.one (.rowk 69 3 x6)
 (.rule 88 [x5] [3,4] []
 (.one (.row 31 4 x6)
 (.call 40 [x7] [] []
 (.one (.ari .and 52 x10 x12)
 (.one (.ari .and 52 x11 x13)
 (.two (.eqa .eql 54 [x14,x15] [x10,x11])
 (.one (.inc 3 x6 x5)
 (.again [(6,x16)] [] [] []))
 (.brk .ret ⟨[(4,ff)],[(0,.row [v4])],2⟩ []
 (.leaf .ret ⟨[(4,ff)],[(0,.row [v4])],1⟩)))))
 .no
 .no))
 .no))
 (.one (.rowk 69 3 x6)
 (.rule 88 [x5] [3,4] []
 (.one (.row 31 4 x6)
 (.call 40 [x7] [] []
 (.one (.ari .and 52 x10 x12)
 (.one (.ari .and 52 x11 x13)
 (.two (.eqa .eql 54 [x14,x15] [x10,x11])
 (.one (.inc 3 x6 x5)
 (.again [(6,x16)] [] [] []))
 (.brk .ret ⟨[(4,ff)],[(0,.row [v4])],2⟩ []
 (.leaf .ret ⟨[(4,ff)],[(0,.row [v4])],1⟩)))))
 .no
 .no))
 .no)))
 .no)
 (.rule 9 [x6,x5] [] []
 (.rule 78 [x6] [3] []
 (.one (.rowk 69 3 x6)
 (.rule 88 [x5] [3,4] []
 (.one (.row 31 4 x6)
 (.call 40 [x7] [] []
 (.one (.ari .and 52 x10 x12)
 (.one (.ari .and 52 x11 x13)
 (.two (.eqa .eql 54 [x14,x15] [x10,x11])
 (.one (.inc 3 x6 x5)
 (.again [(6,x16)] [] [] []))
 (.brk .ret ⟨[(4,ff)],[(0,.row [v4])],2⟩ []
 (.leaf .ret ⟨[(4,ff)],[(0,.row [v4])],1⟩)))))
 .no
 .no))
 .no))
 (.one (.rowk 69 3 x6)
 (.rule 88 [x5] [3,4] []
 (.one (.row 31 4 x6)
 (.call 40 [x7] [] []
 (.one (.ari .and 52 x10 x12)
 (.one (.ari .and 52 x11 x13)
 (.two (.eqa .eql 54 [x14,x15] [x10,x11])
 (.one (.inc 3 x6 x5)
 (.again [(6,x16)] [] [] []))
 (.brk .ret ⟨[(4,ff)],[(0,.row [v4])],2⟩ []
 (.leaf .ret ⟨[(4,ff)],[(0,.row [v4])],1⟩)))))
 .no
 .no))
 .no)))
 .no))
 (.brk (.exit 0) ⟨[(4,ff)],[(0,.row [v4])],2⟩ []
 (.leaf .ret ⟨[(4,tt)],[(0,.row [v4])],1⟩)))))
def f_allK:List Fit:=[⟨0,[],[],[]⟩,⟨0,[],[],[]⟩,⟨0,[],[],[]⟩,⟨0,[],[],[]⟩,⟨1,[],[],[]⟩]
def C_allKP:Con:=C_allK
def p_allK:List Con:=[C_ixHP,C_ixAP,C_ixTP,C_ixFP,C_ixKP,C_ixSP,C_headerAtP,C_actionAtP,C_tableAtP,C_fieldAtP,C_fieldOfP,C_fitsP,C_plainP,C_containsP,C_isNameP,C_nameP,C_fieldsP,C_headersP,C_WidthP,C_KindP,C_CallP,C_stepP,C_actionsP,C_tablesP,C_testP,C_stageP,C_walkTTP,C_walkTFP,C_tallP,C_walkSP,C_walkS0P,C_roundsP,C_statesP,C_CheckP,C_WidthsP,C_kindsP,C_cloKP,C_cloSP,C_cloBP,C_ofP,C_onesP,C_may1P,C_may2P,C_may3P,C_may4P,C_hits1P,C_hits2P,C_hits3P,C_hits4P,C_whoP]
def L_allK:Nat->Prop:=Lf C_allK p_allK t_allK [] false
def C_key:Con:=⟨25,[.str 1048576,.int .i64,.str 1048576,.boo,.boo],[10,11,7,104,7],0,[(.agg [x0,v0,v1,x1,x2,v2,x3,v3,x4]),v4],[],0,[.cus 118 [] [3] []],[⟨[],[],0,[],(.ret ff),[],0⟩,
 ⟨[],[],0,[.cus 127 [] [3,4] []],(.ret tt),[],0⟩]⟩
def t_key:Tree:=(.one (.len 31 4)
 (.one (.len 69 3)
 (.two (.cmp .eql 3 x5 x6)
 (.rule 87 [x6,x5] [3,4] []
 (.call 50 [x0,x1,x2,x3,x4] [0,1,2,3,4] []
 (.leaf .ret ⟨[(4,ff)],[],0⟩)
 (.leaf .ret ⟨[(4,tt)],[],0⟩)
 .no)
 .no)
 (.leaf .ret ⟨[(4,ff)],[],0⟩))))
def f_key:List Fit:=[⟨0,[],[],[]⟩,⟨1,[],[],[]⟩,⟨0,[],[],[]⟩]
def C_keyP:Con:=C_key.fn 53
def p_key:List Con:=[C_ixHP,C_ixAP,C_ixTP,C_ixFP,C_ixKP,C_ixSP,C_headerAtP,C_actionAtP,C_tableAtP,C_fieldAtP,C_fieldOfP,C_fitsP,C_plainP,C_containsP,C_isNameP,C_nameP,C_fieldsP,C_headersP,C_WidthP,C_KindP,C_CallP,C_stepP,C_actionsP,C_tablesP,C_testP,C_stageP,C_walkTTP,C_walkTFP,C_tallP,C_walkSP,C_walkS0P,C_roundsP,C_statesP,C_CheckP,C_WidthsP,C_kindsP,C_cloKP,C_cloSP,C_cloBP,C_ofP,C_onesP,C_may1P,C_may2P,C_may3P,C_may4P,C_hits1P,C_hits2P,C_hits3P,C_hits4P,C_whoP,C_allKP]
def L_key:Nat->Prop:=Lf C_key p_key t_key [] false
def C_allH:Con:=⟨57,[.str 1048576,.int .i64,.str 1048576,.boo,.boo,.int .i64,.str 1048640],[10,11,7,104,12,7,7],0,[(.agg [x0,v0,v1,x1,x2,v2,x3,v3,x4]),(.fn (.func 66) [] [(.ptr 0 0),(.ptr 1 0)])],[(0,.row [v4,x5,x6,v5]),(1,.row [v6])],2,[.cus 118 [] [3] [],.cus 124 [] [3,4] [],.cus 127 [] [3,6] []],[⟨[],[],0,[],(.ret ff),[(0,.row [v4,x5,x6,v5]),(1,.row [v6])],2⟩,
 ⟨[],[],0,[.cus 126 [] [3,4,6] []],(.ret tt),[(0,.row [v4,x5,x6,v5]),(1,.row [v6])],2⟩]⟩
def t_allH:Tree:=(.one (.len 69 3)
 (.rule 90 [] [3,4,2] []
 (.rule 90 [] [3,4,5] []
 (.rule 90 [] [3,4,6] []
 (.loop ⟨[1,0,1,0],⟨[(1,(.fn (.func 66) [] [(.ptr 0 0),(.ptr 1 0)])),(4,ff),(8,v3),(9,x7),(10,x8)],[(0,.row [v4,x5,x6,v5]),(1,.row [v6])],3⟩,[(8,y0)],[(8,.nat)],[],[],8,x7,[],[],[.cus 125 [x8] [3,4,6] []],3,[]⟩
 (.two (.cmp .lss 3 x8 x7)
 (.rule 76 [x8,x7] [3] []
 (.rule 9 [x8,x7] [] []
 (.rule 77 [x8] [3] []
 (.one (.rowk 69 3 x8)
 (.rule 89 [x7] [3,4] []
 (.one (.row 44 4 x8)
 (.rule 88 [x7] [3,6] []
 (.one (.row 31 6 x8)
 (.call 45 [x12,x13,x14,x15,x16,x17,x18] [] []
 (.one (.inc 3 x8 x7)
 (.rule 94 [x8,x9,x10,x11,x19,x12,x13,x14,x15,x16,x17,x18] [3,4,6] []
 (.again [(8,x19)] [] [] [])
 .no))
 (.brk .ret ⟨[(4,ff)],[(0,.row [v4,x5,x6,v5]),(1,.row [v6])],3⟩ []
 (.leaf .ret ⟨[(4,ff)],[(0,.row [v4,x5,x6,v5]),(1,.row [v6])],2⟩))
 .no))
 .no))
 .no))
 (.one (.rowk 69 3 x8)
 (.rule 89 [x7] [3,4] []
 (.one (.row 44 4 x8)
 (.rule 88 [x7] [3,6] []
 (.one (.row 31 6 x8)
 (.rule 100 [x8,x9,(nk .u64 0),(nk .u64 0),x12,x13,x14,x15,x16] [3,4] []
 (.call 46 [x12,x13,x14,x15,x16,x17,x18,x9] [] []
 (.one (.inc 3 x8 x7)
 (.rule 91 [x8,x9,(nk .u64 0),(nk .u64 0),x19] [3,4,6] []
 (.again [(8,x19)] [] [] [])
 .no))
 (.brk .ret ⟨[(4,ff)],[(0,.row [v4,x5,x6,v5]),(1,.row [v6])],3⟩ []
 (.leaf .ret ⟨[(4,ff)],[(0,.row [v4,x5,x6,v5]),(1,.row [v6])],2⟩))
 .no)
 .no))
 .no))
 .no)))
 .no)
 (.rule 9 [x8,x7] [] []
 (.rule 78 [x8] [3] []
 (.one (.rowk 69 3 x8)
 (.rule 89 [x7] [3,4] []
 (.one (.row 44 4 x8)
 (.rule 88 [x7] [3,6] []
 (.one (.row 31 6 x8)
 (.call 47 [x12,x13,x14,x15,x16,x17,x18] [] []
 (.one (.inc 3 x8 x7)
 (.rule 92 [x8,x9,x10,x11,x19] [3,4,6] []
 (.again [(8,x19)] [] [] [])
 .no))
 (.brk .ret ⟨[(4,ff)],[(0,.row [v4,x5,x6,v5]),(1,.row [v6])],3⟩ []
 (.leaf .ret ⟨[(4,ff)],[(0,.row [v4,x5,x6,v5]),(1,.row [v6])],2⟩))
 .no))
 .no))
 .no))
 (.one (.rowk 69 3 x8)
 (.rule 89 [x7] [3,4] []
 (.one (.row 44 4 x8)
 (.rule 88 [x7] [3,6] []
 (.one (.row 31 6 x8)
 (.call 48 [x12,x13,x14,x15,x16,x17,x18] [] []
 (.brk .ret ⟨[(4,ff)],[(0,.row [v4,x5,x6,v5]),(1,.row [v6])],3⟩ []
 (.leaf .ret ⟨[(4,ff)],[(0,.row [v4,x5,x6,v5]),(1,.row [v6])],2⟩))
 (.one (.inc 3 x8 x7)
 (.rule 93 [x8,x9,x10,x11,x19] [3,4,6] []
 (.again [(8,x19)] [] [] [])
 .no))
 .no))
 .no))
 .no)))
 .no))
 (.brk (.exit 0) ⟨[(4,ff)],[(0,.row [v4,x5,x6,v5]),(1,.row [v6])],3⟩ []
 (.rule 95 [x8,x7] [3,4,6] []
 (.leaf .ret ⟨[(4,tt)],[(0,.row [v4,x5,x6,v5]),(1,.row [v6])],2⟩)
 .no))))
 .no)
 .no)
 .no))
def f_allH:List Fit:=[⟨0,[],[],[]⟩,⟨0,[],[],[]⟩,⟨0,[],[],[]⟩,⟨0,[],[],[]⟩,⟨1,[],[],[]⟩]
def C_allHP:Con:=C_allH
def p_allH:List Con:=[C_ixHP,C_ixAP,C_ixTP,C_ixFP,C_ixKP,C_ixSP,C_headerAtP,C_actionAtP,C_tableAtP,C_fieldAtP,C_fieldOfP,C_fitsP,C_plainP,C_containsP,C_isNameP,C_nameP,C_fieldsP,C_headersP,C_WidthP,C_KindP,C_CallP,C_stepP,C_actionsP,C_tablesP,C_testP,C_stageP,C_walkTTP,C_walkTFP,C_tallP,C_walkSP,C_walkS0P,C_roundsP,C_statesP,C_CheckP,C_WidthsP,C_kindsP,C_cloKP,C_cloSP,C_cloBP,C_ofP,C_onesP,C_may1P,C_may2P,C_may3P,C_may4P,C_hits1P,C_hits2P,C_hits3P,C_hits4P,C_whoP,C_allKP,C_keyP]
def L_allH:Nat->Prop:=Lf C_allH p_allH t_allH [] false
def C_hits:Con:=⟨27,[.str 1048576,.int .i64,.str 1048576,.boo,.boo,.int .i64,.str 1048576],[10,11,7,104,12,7,7],0,[(.agg [x0,v0,v1,x1,x2,v2,x3,v3,x4]),(.agg [v4,x5,x6,v5]),v6],[],0,[.cus 118 [] [3] [],.cus 124 [] [3,4] [],.cus 127 [] [3,6] []],[⟨[],[],0,[],(.ret ff),[],0⟩,
 ⟨[],[],0,[.cus 126 [] [3,4,6] []],(.ret tt),[],0⟩]⟩
def t_hits:Tree:=(.call 52 [x0,x1,x2,x3,x4,x5,x6] [0,1,2,3,4,5,6] []
 (.leaf .ret ⟨[(6,ff)],[],0⟩)
 (.leaf .ret ⟨[(6,tt)],[],0⟩)
 .no)
def f_hits:List Fit:=[⟨0,[],[],[]⟩,⟨1,[],[],[]⟩]
def C_hitsP:Con:=C_hits.fn 54
def p_hits:List Con:=[C_ixHP,C_ixAP,C_ixTP,C_ixFP,C_ixKP,C_ixSP,C_headerAtP,C_actionAtP,C_tableAtP,C_fieldAtP,C_fieldOfP,C_fitsP,C_plainP,C_containsP,C_isNameP,C_nameP,C_fieldsP,C_headersP,C_WidthP,C_KindP,C_CallP,C_stepP,C_actionsP,C_tablesP,C_testP,C_stageP,C_walkTTP,C_walkTFP,C_tallP,C_walkSP,C_walkS0P,C_roundsP,C_statesP,C_CheckP,C_WidthsP,C_kindsP,C_cloKP,C_cloSP,C_cloBP,C_ofP,C_onesP,C_may1P,C_may2P,C_may3P,C_may4P,C_hits1P,C_hits2P,C_hits3P,C_hits4P,C_whoP,C_allKP,C_keyP,C_allHP]
def L_hits:Nat->Prop:=Lf C_hits p_hits t_hits [] false
def C_compI:Con:=⟨34,[.int .i64,.int .i64],[],0,[x0,x1],[],0,[],[⟨[.int .i64],[],0,[.cmp .leq x2 y4 true,.cmp .leq x2 y64 true,.cmp .leq x2 y128 true,.cus 140 [x2,x0,x1] [] []],(.ret x2),[],0⟩]⟩
def t_compI:Tree:=(.two (.cmp .neq 3 x0 x0)
 (.rule 101 [x0] [] []
 .no
 .no)
 (.two (.cmp .neq 3 x1 x1)
 (.rule 101 [x1] [] []
 .no
 .no)
 (.two (.cmp .lss 3 x0 x1)
 (.rule 103 [x0,x1] [] []
 (.leaf .ret ⟨[(4,(nn (-1)))],[],0⟩)
 .no)
 (.two (.cmp .gtr 3 x0 x1)
 (.rule 105 [x0,x1] [] []
 (.leaf .ret ⟨[(4,y1)],[],0⟩)
 .no)
 (.rule 107 [x0,x1] [] []
 (.leaf .ret ⟨[(4,y0)],[],0⟩)
 .no)))))
def f_compI:List Fit:=[⟨0,[(nn (-1))],[],[]⟩,⟨0,[y1],[],[]⟩,⟨0,[y0],[],[]⟩]
def C_compIP:Con:=C_compI
def p_compI:List Con:=[C_ixHP,C_ixAP,C_ixTP,C_ixFP,C_ixKP,C_ixSP,C_headerAtP,C_actionAtP,C_tableAtP,C_fieldAtP,C_fieldOfP,C_fitsP,C_plainP,C_containsP,C_isNameP,C_nameP,C_fieldsP,C_headersP,C_WidthP,C_KindP,C_CallP,C_stepP,C_actionsP,C_tablesP,C_testP,C_stageP,C_walkTTP,C_walkTFP,C_tallP,C_walkSP,C_walkS0P,C_roundsP,C_statesP,C_CheckP,C_WidthsP,C_kindsP,C_cloKP,C_cloSP,C_cloBP,C_ofP,C_onesP,C_may1P,C_may2P,C_may3P,C_may4P,C_hits1P,C_hits2P,C_hits3P,C_hits4P,C_whoP,C_allKP,C_keyP,C_allHP,C_hitsP]
def L_compI:Nat->Prop:=Lf C_compI p_compI t_compI [] false
def C_compU:Con:=⟨74,[.int .u64,.int .u64],[],0,[x0,x1],[],0,[],[⟨[.int .i64],[],0,[.cmp .leq x2 y4 true,.cmp .leq x2 y64 true,.cmp .leq x2 y128 true,.cus 140 [x2,x0,x1] [] []],(.ret x2),[],0⟩]⟩
def t_compU:Tree:=(.two (.cmp .neq 52 x0 x0)
 (.rule 102 [x0] [] []
 .no
 .no)
 (.two (.cmp .neq 52 x1 x1)
 (.rule 102 [x1] [] []
 .no
 .no)
 (.two (.cmp .lss 52 x0 x1)
 (.rule 104 [x0,x1] [] []
 (.leaf .ret ⟨[(4,(nn (-1)))],[],0⟩)
 .no)
 (.two (.cmp .gtr 52 x0 x1)
 (.rule 106 [x0,x1] [] []
 (.leaf .ret ⟨[(4,y1)],[],0⟩)
 .no)
 (.rule 108 [x0,x1] [] []
 (.leaf .ret ⟨[(4,y0)],[],0⟩)
 .no)))))
def f_compU:List Fit:=[⟨0,[(nn (-1))],[],[]⟩,⟨0,[y1],[],[]⟩,⟨0,[y0],[],[]⟩]
def C_compUP:Con:=C_compU
def p_compU:List Con:=[C_ixHP,C_ixAP,C_ixTP,C_ixFP,C_ixKP,C_ixSP,C_headerAtP,C_actionAtP,C_tableAtP,C_fieldAtP,C_fieldOfP,C_fitsP,C_plainP,C_containsP,C_isNameP,C_nameP,C_fieldsP,C_headersP,C_WidthP,C_KindP,C_CallP,C_stepP,C_actionsP,C_tablesP,C_testP,C_stageP,C_walkTTP,C_walkTFP,C_tallP,C_walkSP,C_walkS0P,C_roundsP,C_statesP,C_CheckP,C_WidthsP,C_kindsP,C_cloKP,C_cloSP,C_cloBP,C_ofP,C_onesP,C_may1P,C_may2P,C_may3P,C_may4P,C_hits1P,C_hits2P,C_hits3P,C_hits4P,C_whoP,C_allKP,C_keyP,C_allHP,C_hitsP,C_compIP]
def L_compU:Nat->Prop:=Lf C_compU p_compU t_compU [] false
def C_compB:Con:=⟨37,[.int .u64,.int .u64,.int .u64,.int .u64],[],0,[(.agg [x0,x1]),(.agg [x2,x3])],[],0,[],[⟨[.int .i64],[],0,[.cmp .leq x4 y4 true,.cmp .leq x4 y64 true,.cmp .leq x4 y128 true,.cus 142 [x4,x0,x1,x2,x3] [] []],(.ret x4),[],0⟩]⟩
def t_compB:Tree:=(.call 55 [x0,x2] [] []
 (.call 55 [x1,x3] [] []
 (.two (.cmp .neq 3 x4 y0)
 (.rule 109 [x0,x1,x2,x3,x4] [] []
 (.leaf .ret ⟨[(4,x4)],[],0⟩)
 .no)
 (.two (.cmp .neq 3 x5 y0)
 (.rule 110 [x0,x1,x2,x3,x4,x5] [] []
 (.leaf .ret ⟨[(4,x5)],[],0⟩)
 .no)
 (.rule 111 [x0,x1,x2,x3,x4,x5] [] []
 (.leaf .ret ⟨[(4,y0)],[],0⟩)
 .no)))
 .no
 .no)
 .no
 .no)
def f_compB:List Fit:=[⟨0,[x4],[],[]⟩,⟨0,[x5],[],[]⟩,⟨0,[y0],[],[]⟩]
def C_compBP:Con:=C_compB
def p_compB:List Con:=[C_ixHP,C_ixAP,C_ixTP,C_ixFP,C_ixKP,C_ixSP,C_headerAtP,C_actionAtP,C_tableAtP,C_fieldAtP,C_fieldOfP,C_fitsP,C_plainP,C_containsP,C_isNameP,C_nameP,C_fieldsP,C_headersP,C_WidthP,C_KindP,C_CallP,C_stepP,C_actionsP,C_tablesP,C_testP,C_stageP,C_walkTTP,C_walkTFP,C_tallP,C_walkSP,C_walkS0P,C_roundsP,C_statesP,C_CheckP,C_WidthsP,C_kindsP,C_cloKP,C_cloSP,C_cloBP,C_ofP,C_onesP,C_may1P,C_may2P,C_may3P,C_may4P,C_hits1P,C_hits2P,C_hits3P,C_hits4P,C_whoP,C_allKP,C_keyP,C_allHP,C_hitsP,C_compIP,C_compUP]
def L_compB:Nat->Prop:=Lf C_compB p_compB t_compB [] false
def C_compM:Con:=⟨36,[.int .u64,.int .u64,.int .u64,.int .u64,.int .i64,.int .u64,.int .u64,.int .u64,.int .u64,.int .i64],[],0,[(.agg [x0,x1,x2,x3,x4]),(.agg [x5,x6,x7,x8,x9])],[],0,[],[⟨[.int .i64],[],0,[.cmp .leq x10 y4 true,.cmp .leq x10 y64 true,.cmp .leq x10 y128 true,.cus 143 [x10,x0,x1,x2,x3,x4,x5,x6,x7,x8,x9] [] []],(.ret x10),[],0⟩]⟩
def t_compM:Tree:=(.call 54 [x9,x4] [] []
 (.call 56 [x0,x1,x5,x6] [] []
 (.call 56 [x2,x3,x7,x8] [] []
 (.two (.cmp .neq 3 x10 y0)
 (.rule 112 [x0,x1,x2,x3,x4,x5,x6,x7,x8,x9,x10] [] []
 (.leaf .ret ⟨[(4,x10)],[],0⟩)
 .no)
 (.two (.cmp .neq 3 x11 y0)
 (.rule 113 [x0,x1,x2,x3,x4,x5,x6,x7,x8,x9,x10,x11] [] []
 (.leaf .ret ⟨[(4,x11)],[],0⟩)
 .no)
 (.two (.cmp .neq 3 x12 y0)
 (.rule 114 [x0,x1,x2,x3,x4,x5,x6,x7,x8,x9,x10,x11,x12] [] []
 (.leaf .ret ⟨[(4,x12)],[],0⟩)
 .no)
 (.rule 115 [x0,x1,x2,x3,x4,x5,x6,x7,x8,x9,x10,x11,x12] [] []
 (.leaf .ret ⟨[(4,y0)],[],0⟩)
 .no))))
 .no
 .no)
 .no
 .no)
 .no
 .no)
def f_compM:List Fit:=[⟨0,[x10],[],[]⟩,⟨0,[x11],[],[]⟩,⟨0,[x12],[],[]⟩,⟨0,[y0],[],[]⟩]
def C_compMP:Con:=C_compM
def p_compM:List Con:=[C_ixHP,C_ixAP,C_ixTP,C_ixFP,C_ixKP,C_ixSP,C_headerAtP,C_actionAtP,C_tableAtP,C_fieldAtP,C_fieldOfP,C_fitsP,C_plainP,C_containsP,C_isNameP,C_nameP,C_fieldsP,C_headersP,C_WidthP,C_KindP,C_CallP,C_stepP,C_actionsP,C_tablesP,C_testP,C_stageP,C_walkTTP,C_walkTFP,C_tallP,C_walkSP,C_walkS0P,C_roundsP,C_statesP,C_CheckP,C_WidthsP,C_kindsP,C_cloKP,C_cloSP,C_cloBP,C_ofP,C_onesP,C_may1P,C_may2P,C_may3P,C_may4P,C_hits1P,C_hits2P,C_hits3P,C_hits4P,C_whoP,C_allKP,C_keyP,C_allHP,C_hitsP,C_compIP,C_compUP,C_compBP]
def L_compM:Nat->Prop:=Lf C_compM p_compM t_compM [] false
def C_compL:Con:=⟨35,[],[12,12],0,[v0,v1,(.fn (.func 36) [] [])],[],0,[],[⟨[.int .i64],[],0,[.cmp .leq x0 y4 true,.cmp .leq x0 y64 true,.cmp .leq x0 y128 true,.cus 145 [x0] [0,1] []],(.ret x0),[],0⟩]⟩
def t_compL:Tree:=(.one (.len 44 0)
 (.rule 116 [] [0,0] []
 (.rule 116 [] [0,1] []
 (.rule 116 [] [1,0] []
 (.rule 116 [] [1,1] []
 (.loop ⟨[1,0,1,0],⟨[(0,v0),(1,v1),(2,(.fn (.func 36) [] [])),(6,y0),(11,v0),(12,x0),(13,x1)],[],0⟩,[(1,y0)],[(1,.nat)],[],[],1,x0,[],[],[.cus 144 [x1] [0,1] []],0,[]⟩
 (.two (.cmp .lss 3 x1 x0)
 (.one (.row 44 0 x1)
 (.one (.len 44 1)
 (.two (.cmp .geq 3 x1 x7)
 (.brk .ret ⟨[(0,v0),(1,v1),(6,y1)],[],0⟩ []
 (.rule 119 [x1,x0,x7] [0,1] []
 (.leaf .ret ⟨[(6,y1)],[],0⟩)
 .no))
 (.rule 125 [x1,x7] [] []
 (.one (.row 44 1 x1)
 (.call 57 [x2,x3,x4,x5,x6,x8,x9,x10,x11,x12] [] []
 (.two (.cmp .neq 3 x13 y0)
 (.brk .ret ⟨[(0,v0),(1,v1),(6,x13)],[],0⟩ []
 (.rule 118 [x2,x3,x4,x5,x6,x8,x9,x10,x11,x12,x1,x13] [0,1] []
 (.leaf .ret ⟨[(6,x13)],[],0⟩)
 .no))
 (.one (.inc 3 x1 x0)
 (.rule 117 [x2,x3,x4,x5,x6,x8,x9,x10,x11,x12,x1,x13,x14] [0,1] []
 (.again [(1,x14)] [] [] [])
 .no)))
 .no
 .no))
 .no))))
 (.brk (.exit 0) ⟨[(0,v0),(1,v1),(6,y0)],[],0⟩ []
 (.one (.len 44 1)
 (.two (.cmp .lss 3 x0 x2)
 (.rule 120 [x1,x0,x2] [0,1] []
 (.leaf .ret ⟨[(6,(nn (-1)))],[],0⟩)
 .no)
 (.rule 121 [x1,x0,x2] [0,1] []
 (.leaf .ret ⟨[(6,y0)],[],0⟩)
 .no))))))
 .no)
 .no)
 .no)
 .no))
def f_compL:List Fit:=[⟨0,[y1],[],[]⟩,⟨0,[x13],[],[]⟩,⟨0,[(nn (-1))],[],[]⟩,⟨0,[y0],[],[]⟩]
def C_compLP:Con:=C_compL
def p_compL:List Con:=[C_ixHP,C_ixAP,C_ixTP,C_ixFP,C_ixKP,C_ixSP,C_headerAtP,C_actionAtP,C_tableAtP,C_fieldAtP,C_fieldOfP,C_fitsP,C_plainP,C_containsP,C_isNameP,C_nameP,C_fieldsP,C_headersP,C_WidthP,C_KindP,C_CallP,C_stepP,C_actionsP,C_tablesP,C_testP,C_stageP,C_walkTTP,C_walkTFP,C_tallP,C_walkSP,C_walkS0P,C_roundsP,C_statesP,C_CheckP,C_WidthsP,C_kindsP,C_cloKP,C_cloSP,C_cloBP,C_ofP,C_onesP,C_may1P,C_may2P,C_may3P,C_may4P,C_hits1P,C_hits2P,C_hits3P,C_hits4P,C_whoP,C_allKP,C_keyP,C_allHP,C_hitsP,C_compIP,C_compUP,C_compBP,C_compMP]
def L_compL:Nat->Prop:=Lf C_compL p_compL t_compL [] false
def C_order:Con:=⟨9,[.int .i64,.str 1048576,.int .i64,.str 1048576],[12,7,12,7],0,[(.agg [v0,x0,x1,v1]),(.agg [v2,x2,x3,v3])],[],0,[],[⟨[.int .i64],[],0,[.cmp .leq x4 y4 true,.cmp .leq x4 y64 true,.cmp .leq x4 y128 true,.cus 146 [x4,x0,x2] [0,2] []],(.ret x4),[],0⟩]⟩
def t_order:Tree:=(.call 54 [x2,x0] [] []
 (.call 58 [] [0,2] []
 (.two (.cmp .neq 3 x4 y0)
 (.rule 122 [x0,x2,x4] [0,2] []
 (.leaf .ret ⟨[(4,x4)],[],0⟩)
 .no)
 (.two (.cmp .neq 3 x5 y0)
 (.rule 123 [x0,x2,x4,x5] [0,2] []
 (.leaf .ret ⟨[(4,x5)],[],0⟩)
 .no)
 (.rule 124 [x0,x2,x4,x5] [0,2] []
 (.leaf .ret ⟨[(4,y0)],[],0⟩)
 .no)))
 .no
 .no)
 .no
 .no)
def f_order:List Fit:=[⟨0,[x4],[],[]⟩,⟨0,[x5],[],[]⟩,⟨0,[y0],[],[]⟩]
def C_orderP:Con:=C_order
def p_order:List Con:=[C_ixHP,C_ixAP,C_ixTP,C_ixFP,C_ixKP,C_ixSP,C_headerAtP,C_actionAtP,C_tableAtP,C_fieldAtP,C_fieldOfP,C_fitsP,C_plainP,C_containsP,C_isNameP,C_nameP,C_fieldsP,C_headersP,C_WidthP,C_KindP,C_CallP,C_stepP,C_actionsP,C_tablesP,C_testP,C_stageP,C_walkTTP,C_walkTFP,C_tallP,C_walkSP,C_walkS0P,C_roundsP,C_statesP,C_CheckP,C_WidthsP,C_kindsP,C_cloKP,C_cloSP,C_cloBP,C_ofP,C_onesP,C_may1P,C_may2P,C_may3P,C_may4P,C_hits1P,C_hits2P,C_hits3P,C_hits4P,C_whoP,C_allKP,C_keyP,C_allHP,C_hitsP,C_compIP,C_compUP,C_compBP,C_compMP,C_compLP]
def L_order:Nat->Prop:=Lf C_order p_order t_order [] false
def C_hit:Con:=⟨8,[.str 1048576,.int .i64,.str 1048576],[0,1,2,3,4,5,12,7,7],0,[(.agg [v0,v1,v2,v3,v4,v5]),x0,(.agg [v6,x1,x2,v7]),v8],[],0,[],[⟨[],[],0,[.cus 235 [x0,x1,x2] [0,1,2,3,4,5,6,7,8] []],(.ret ff),[],0⟩,
 ⟨[],[],0,[.cus 234 [x0,x1,x2] [0,1,2,3,4,5,6,7,8] []],(.ret tt),[],0⟩]⟩
def t_hit:Tree:=(.call 39 [x0] [0,1,2,3,4,5] []
 (.two (.cmp .eql 60 x3 y0)
 (.rule 74 [x3] [] []
 .no
 .no)
 (.rule 128 [x0,x3,x1,x2] [0,1,2,3,4,5,6,7,8] []
 (.leaf .ret ⟨[(8,ff)],[],0⟩)
 .no))
 (.call 49 [x3,x4,x5,x6,tt,x1,x2] [9,10,11,12,6,7] []
 (.two (.cmp .eql 60 x8 y0)
 (.rule 74 [x8] [] []
 .no
 .no)
 (.rule 131 [x0,x3,x4,x5,x6,x7,x1,x2,x8] [0,1,2,3,4,5,9,10,11,12,6,7,8] []
 (.leaf .ret ⟨[(8,ff)],[],0⟩)
 .no))
 (.call 51 [x3,x4,x5,x6,tt] [9,10,11,12,8] []
 (.rule 129 [x0,x3,x4,x5,x6,x7,x1,x2,y0] [0,1,2,3,4,5,9,10,11,12,6,7,8] []
 (.leaf .ret ⟨[(8,ff)],[],0⟩)
 .no)
 (.call 53 [x3,x4,x5,x6,tt,x1,x2] [9,10,11,12,6,7,8] []
 (.rule 133 [x0,x3,x4,x5,x6,x7,x1,x2,y0] [0,1,2,3,4,5,9,10,11,12,6,7,8] []
 (.leaf .ret ⟨[(8,ff)],[],0⟩)
 .no)
 (.rule 126 [x0,x3,x4,x5,x6,x7,x1,x2,y0] [0,1,2,3,4,5,9,10,11,12,6,7,8] []
 (.leaf .ret ⟨[(8,tt)],[],0⟩)
 .no)
 .no)
 .no)
 .no)
 (.call 49 [x3,x4,x5,x6,ff,x1,x2] [9,10,11,12,6,7] []
 (.two (.cmp .eql 60 x8 y0)
 (.rule 74 [x8] [] []
 .no
 .no)
 (.rule 132 [x0,x3,x4,x5,x6,x7,x1,x2,x8] [0,1,2,3,4,5,9,10,11,12,6,7,8] []
 (.leaf .ret ⟨[(8,ff)],[],0⟩)
 .no))
 (.call 51 [x3,x4,x5,x6,ff] [9,10,11,12,8] []
 (.rule 130 [x0,x3,x4,x5,x6,x7,x1,x2,y0] [0,1,2,3,4,5,9,10,11,12,6,7,8] []
 (.leaf .ret ⟨[(8,ff)],[],0⟩)
 .no)
 (.call 53 [x3,x4,x5,x6,ff,x1,x2] [9,10,11,12,6,7,8] []
 (.rule 134 [x0,x3,x4,x5,x6,x7,x1,x2,y0] [0,1,2,3,4,5,9,10,11,12,6,7,8] []
 (.leaf .ret ⟨[(8,ff)],[],0⟩)
 .no)
 (.rule 127 [x0,x3,x4,x5,x6,x7,x1,x2,y0] [0,1,2,3,4,5,9,10,11,12,6,7,8] []
 (.leaf .ret ⟨[(8,tt)],[],0⟩)
 .no)
 .no)
 .no)
 .no))
def f_hit:List Fit:=[⟨0,[],[],[]⟩,⟨0,[],[],[]⟩,⟨0,[],[],[]⟩,⟨0,[],[],[]⟩,⟨1,[],[],[]⟩,⟨0,[],[],[]⟩,⟨0,[],[],[]⟩,⟨0,[],[],[]⟩,⟨1,[],[],[]⟩]
def C_hitP:Con:=C_hit
def p_hit:List Con:=[C_ixHP,C_ixAP,C_ixTP,C_ixFP,C_ixKP,C_ixSP,C_headerAtP,C_actionAtP,C_tableAtP,C_fieldAtP,C_fieldOfP,C_fitsP,C_plainP,C_containsP,C_isNameP,C_nameP,C_fieldsP,C_headersP,C_WidthP,C_KindP,C_CallP,C_stepP,C_actionsP,C_tablesP,C_testP,C_stageP,C_walkTTP,C_walkTFP,C_tallP,C_walkSP,C_walkS0P,C_roundsP,C_statesP,C_CheckP,C_WidthsP,C_kindsP,C_cloKP,C_cloSP,C_cloBP,C_ofP,C_onesP,C_may1P,C_may2P,C_may3P,C_may4P,C_hits1P,C_hits2P,C_hits3P,C_hits4P,C_whoP,C_allKP,C_keyP,C_allHP,C_hitsP,C_compIP,C_compUP,C_compBP,C_compMP,C_compLP,C_orderP]
def L_hit:Nat->Prop:=Lf C_hit p_hit t_hit [] false
def C_best:Con:=⟨5,[.str 1048576],[0,1,2,3,4,5,6,7],0,[(.agg [v0,v1,v2,v3,v4,v5]),x0,v6,v7],[],0,[],[⟨[.int .i64],[],0,[.cus 237 [x1,x0] [0,1,2,3,4,5,6,7] []],(.ret x1),[],0⟩]⟩
def t_best:Tree:=(.call 39 [x0] [0,1,2,3,4,5] []
 (.two (.cmp .neq 60 x1 y0)
 (.rule 142 [x0,x1] [0,1,2,3,4,5,6,7] []
 (.leaf .ret ⟨[(8,(nn (-1)))],[],0⟩)
 .no)
 (.rule 73 [x1] [] []
 .no
 .no))
 (.call 51 [x1,x2,x3,x4,tt] [8,9,10,11,7] []
 (.rule 143 [x0,x1,x2,x3,x4,x5] [0,1,2,3,4,5,8,9,10,11,6,10,7] []
 (.leaf .ret ⟨[(8,(nn (-1)))],[],0⟩)
 .no)
 (.one (.len 30 6)
 (.rule 28 [] [2] []
 (.rule 36 [] [4] []
 (.rule 135 [x0] [0,1,2,3,4,5,6,10] []
 (.rule 135 [x0] [0,1,2,3,4,5,6,7] []
 (.loop ⟨[1,1,1,1,0,1,0],⟨[(2,v6),(3,v7),(8,y0),(9,(.ptr 25 0)),(11,x8),(28,v6),(29,x6),(30,x7)],[(25,.row [x1,v8,v9,x2,x3,v10,x4,v11,tt])],26⟩,[(7,y0),(8,(nn (-1)))],[(7,.nat),(8,.int .i64)],[],[],7,x6,[],[],[.cus 236 [x7,x8,x0] [0,1,2,3,4,5,6,7] []],26,[]⟩
 (.two (.cmp .lss 3 x7 x6)
 (.one (.row 30 6 x7)
 (.call 49 [x1,x2,x3,x4,tt,x9,x10] [8,9,10,11,12,13] []
 (.two (.cmp .eql 60 x11 y0)
 (.rule 74 [x11] [] []
 .no
 .no)
 (.one (.inc 3 x7 x6)
 (.rule 131 [x0,x1,x2,x3,x4,x5,x9,x10,x11] [0,1,2,3,4,5,8,9,10,11,12,13,7] []
 (.rule 136 [x7,x8,x0,x9,x10,x12,y0,y0,(ss [])] [0,1,2,3,4,5,6,7,12,13,12,13] []
 (.again [(7,x12),(8,x8)] [] [] [])
 .no)
 .no)))
 (.call 53 [x1,x2,x3,x4,tt,x9,x10] [8,9,10,11,12,13,7] []
 (.one (.inc 3 x7 x6)
 (.rule 133 [x0,x1,x2,x3,x4,x5,x9,x10,y0] [0,1,2,3,4,5,8,9,10,11,12,13,7] []
 (.rule 136 [x7,x8,x0,x9,x10,x11,y0,y0,(ss [])] [0,1,2,3,4,5,6,7,12,13,12,13] []
 (.again [(7,x11),(8,x8)] [] [] [])
 .no)
 .no))
 (.two (.cmp .lss 3 x8 y0)
 (.one (.inc 3 x7 x6)
 (.rule 126 [x0,x1,x2,x3,x4,x5,x9,x10,y0] [0,1,2,3,4,5,8,9,10,11,12,13,7] []
 (.rule 137 [x7,x8,x0,x9,x10,x11,y0,y0,(ss [])] [0,1,2,3,4,5,6,7,12,13,12,13] []
 (.again [(7,x11),(8,x7)] [] [] [])
 .no)
 .no))
 (.rule 140 [x7,x8,x0] [0,1,2,3,4,5,6,7] []
 (.one (.row 30 6 x8)
 (.call 59 [x9,x10,x11,x12] [12,13,14,15] []
 (.two (.cmp .lss 3 x13 y0)
 (.one (.inc 3 x7 x6)
 (.rule 126 [x0,x1,x2,x3,x4,x5,x9,x10,y0] [0,1,2,3,4,5,8,9,10,11,12,13,7] []
 (.rule 138 [x7,x8,x0,x9,x10,x14,x13,x11,x12] [0,1,2,3,4,5,6,7,12,13,14,15] []
 (.again [(7,x14),(8,x7)] [] [] [])
 .no)
 .no))
 (.one (.inc 3 x7 x6)
 (.rule 139 [x7,x8,x0,x9,x10,x14,x13,x11,x12] [0,1,2,3,4,5,6,7,12,13,14,15] []
 (.again [(7,x14),(8,x8)] [] [] [])
 .no)))
 .no
 .no))
 .no))
 .no)
 .no))
 (.brk (.exit 0) ⟨[(8,y0),(11,x8)],[],26⟩ []
 (.rule 141 [x7,x8,x0,x6] [0,1,2,3,4,5,6,7] []
 (.leaf .ret ⟨[(8,x8)],[],0⟩)
 .no))))
 .no)
 .no)
 .no)
 .no))
 .no)
 (.call 51 [x1,x2,x3,x4,ff] [8,9,10,11,7] []
 (.rule 144 [x0,x1,x2,x3,x4,x5] [0,1,2,3,4,5,8,9,10,11,6,10,7] []
 (.leaf .ret ⟨[(8,(nn (-1)))],[],0⟩)
 .no)
 (.one (.len 30 6)
 (.rule 28 [] [2] []
 (.rule 36 [] [4] []
 (.rule 135 [x0] [0,1,2,3,4,5,6,10] []
 (.rule 135 [x0] [0,1,2,3,4,5,6,7] []
 (.loop ⟨[1,1,1,1,0,1,0],⟨[(2,v6),(3,v7),(8,y0),(9,(.ptr 25 0)),(11,x8),(28,v6),(29,x6),(30,x7)],[(25,.row [x1,v8,v9,x2,x3,v10,x4,v11,ff])],26⟩,[(7,y0),(8,(nn (-1)))],[(7,.nat),(8,.int .i64)],[],[],7,x6,[],[],[.cus 236 [x7,x8,x0] [0,1,2,3,4,5,6,7] []],26,[]⟩
 (.two (.cmp .lss 3 x7 x6)
 (.one (.row 30 6 x7)
 (.call 49 [x1,x2,x3,x4,ff,x9,x10] [8,9,10,11,12,13] []
 (.two (.cmp .eql 60 x11 y0)
 (.rule 74 [x11] [] []
 .no
 .no)
 (.one (.inc 3 x7 x6)
 (.rule 132 [x0,x1,x2,x3,x4,x5,x9,x10,x11] [0,1,2,3,4,5,8,9,10,11,12,13,7] []
 (.rule 136 [x7,x8,x0,x9,x10,x12,y0,y0,(ss [])] [0,1,2,3,4,5,6,7,12,13,12,13] []
 (.again [(7,x12),(8,x8)] [] [] [])
 .no)
 .no)))
 (.call 53 [x1,x2,x3,x4,ff,x9,x10] [8,9,10,11,12,13,7] []
 (.one (.inc 3 x7 x6)
 (.rule 134 [x0,x1,x2,x3,x4,x5,x9,x10,y0] [0,1,2,3,4,5,8,9,10,11,12,13,7] []
 (.rule 136 [x7,x8,x0,x9,x10,x11,y0,y0,(ss [])] [0,1,2,3,4,5,6,7,12,13,12,13] []
 (.again [(7,x11),(8,x8)] [] [] [])
 .no)
 .no))
 (.two (.cmp .lss 3 x8 y0)
 (.one (.inc 3 x7 x6)
 (.rule 127 [x0,x1,x2,x3,x4,x5,x9,x10,y0] [0,1,2,3,4,5,8,9,10,11,12,13,7] []
 (.rule 137 [x7,x8,x0,x9,x10,x11,y0,y0,(ss [])] [0,1,2,3,4,5,6,7,12,13,12,13] []
 (.again [(7,x11),(8,x7)] [] [] [])
 .no)
 .no))
 (.rule 140 [x7,x8,x0] [0,1,2,3,4,5,6,7] []
 (.one (.row 30 6 x8)
 (.call 59 [x9,x10,x11,x12] [12,13,14,15] []
 (.two (.cmp .lss 3 x13 y0)
 (.one (.inc 3 x7 x6)
 (.rule 127 [x0,x1,x2,x3,x4,x5,x9,x10,y0] [0,1,2,3,4,5,8,9,10,11,12,13,7] []
 (.rule 138 [x7,x8,x0,x9,x10,x14,x13,x11,x12] [0,1,2,3,4,5,6,7,12,13,14,15] []
 (.again [(7,x14),(8,x7)] [] [] [])
 .no)
 .no))
 (.one (.inc 3 x7 x6)
 (.rule 139 [x7,x8,x0,x9,x10,x14,x13,x11,x12] [0,1,2,3,4,5,6,7,12,13,14,15] []
 (.again [(7,x14),(8,x8)] [] [] [])
 .no)))
 .no
 .no))
 .no))
 .no)
 .no))
 (.brk (.exit 0) ⟨[(8,y0),(11,x8)],[],26⟩ []
 (.rule 141 [x7,x8,x0,x6] [0,1,2,3,4,5,6,7] []
 (.leaf .ret ⟨[(8,x8)],[],0⟩)
 .no))))
 .no)
 .no)
 .no)
 .no))
 .no))
def f_best:List Fit:=[⟨0,[(nn (-1))],[],[]⟩,⟨0,[(nn (-1))],[],[]⟩,⟨0,[x8],[],[]⟩,⟨0,[(nn (-1))],[],[]⟩,⟨0,[x8],[],[]⟩]
def C_bestP:Con:=C_best
def p_best:List Con:=[C_ixHP,C_ixAP,C_ixTP,C_ixFP,C_ixKP,C_ixSP,C_headerAtP,C_actionAtP,C_tableAtP,C_fieldAtP,C_fieldOfP,C_fitsP,C_plainP,C_containsP,C_isNameP,C_nameP,C_fieldsP,C_headersP,C_WidthP,C_KindP,C_CallP,C_stepP,C_actionsP,C_tablesP,C_testP,C_stageP,C_walkTTP,C_walkTFP,C_tallP,C_walkSP,C_walkS0P,C_roundsP,C_statesP,C_CheckP,C_WidthsP,C_kindsP,C_cloKP,C_cloSP,C_cloBP,C_ofP,C_onesP,C_may1P,C_may2P,C_may3P,C_may4P,C_hits1P,C_hits2P,C_hits3P,C_hits4P,C_whoP,C_allKP,C_keyP,C_allHP,C_hitsP,C_compIP,C_compUP,C_compBP,C_compMP,C_compLP,C_orderP,C_hitP]
def L_best:Nat->Prop:=Lf C_best p_best t_best [] false
def C_shown:Con:=⟨4,[],[],0,[],[],0,[],[⟨[],[],0,[],(.ret tt),[],0⟩]⟩
def C_shownP:Con:=C_shown
def C_law:Con:=⟨3,[.str 1048576],[0,1,2,3,4,5,6,7],0,[(.agg [v0,v1,v2,v3,v4,v5]),x0,v6,v7],[],0,[],[⟨[],[],0,[],(.ret tt),[],0⟩]⟩
def t_law:Tree:=(.call 62 [] [] []
 (.call 61 [x0] [0,1,2,3,4,5,6,7] []
 (.two (.cmp .lss 3 x1 (nn (-1)))
 (.rule 145 [x1,x0] [0,1,2,3,4,5,6,7] []
 .no
 .no)
 (.one (.len 30 6)
 (.two (.cmp .geq 3 x1 x2)
 (.rule 146 [x1,x0,x2] [0,1,2,3,4,5,6,7] []
 .no
 .no)
 (.call 8 [x0] [0,1,2,3,4,5] []
 (.two (.cmp .geq 3 x3 y0)
 (.one (.row 26 4 x3)
 (.call 36 [] [8] []
 (.call 37 [] [9] []
 (.call 38 [] [10] []
 (.call 19 [x4,x5,x6,x7] [8,9,10] []
 (.rule 28 [] [2] []
 (.rule 36 [] [4] []
 (.loop ⟨[1,1,1,1,1,1,0,1,0],⟨[(1,x0),(2,v6),(3,v7),(4,(.ptr 0 0)),(8,ff),(9,x1),(10,(.ptr 5 0)),(13,x8),(14,x9)],[(0,.row [v0,v1,v2,v3,v4,v5]),(5,.row [x4,v8,v9,x5,x6,v10,x7])],6⟩,[(9,y0)],[(9,.nat)],[],[],9,x2,[],[],[],6,[]⟩
 (.two (.cmp .lss 3 x9 x2)
 (.one (.row 30 6 x9)
 (.call 60 [x0,x10,x11] [0,1,2,3,4,5,11,12,7] []
 (.two (.cmp .eql 3 x9 x1)
 (.rule 148 [x1,x0,x9,x10,x11,y0,(ss []),y0,y0] [0,1,2,3,4,5,6,7,11,12] []
 .no
 .no)
 (.one (.inc 3 x9 x2)
 (.again [(9,x12)] [] [] [])))
 (.two (.cmp .lss 3 x1 y0)
 (.rule 147 [x1,x0,x9,x10,x11,y0,(ss []),y0,y0] [0,1,2,3,4,5,6,7,11,12] []
 .no
 .no)
 (.two (.cmp .eql 3 x9 x1)
 (.one (.inc 3 x9 x2)
 (.again [(9,x12)] [] [] []))
 (.rule 149 [x1,x0] [0,1,2,3,4,5,6,7] []
 (.one (.row 30 6 x1)
 (.call 59 [x12,x13,x10,x11] [13,14,11,12] []
 (.two (.cmp .gtr 3 x14 y0)
 (.rule 150 [x1,x0,x9,x10,x11,x12,x13,x14,y0] [0,1,2,3,4,5,6,7,11,12,13,14] []
 .no
 .no)
 (.two (.cmp .eql 3 x14 y0)
 (.two (.cmp .gtr 3 x1 x9)
 (.rule 151 [x1,x0,x9,x10,x11,x12,x13,x14,y0] [0,1,2,3,4,5,6,7,11,12,13,14] []
 .no
 .no)
 (.one (.len 34 8)
 (.loop ⟨[1,1,1,1,1,1,0,1,0,0,1,0,0,1,1,1,1,1,1,0],⟨[(1,x0),(2,v6),(3,v7),(4,(.ptr 0 0)),(8,ff),(9,x1),(10,(.ptr 5 0)),(13,x8),(14,x9),(17,x16),(58,x1),(59,ff),(62,x9),(63,x1),(64,ff),(65,ff),(66,(.tup [])),(67,(.tup [])),(68,ff),(73,x9),(74,x1),(75,ff),(89,x14),(90,tt),(91,tt),(92,x1),(93,x9),(94,ff),(95,ff)],[(0,.row [v0,v1,v2,v3,v4,v5]),(5,.row [x4,v8,v9,x5,x6,v10,x7])],25⟩,[(16,y0)],[(16,.nat)],[],[],16,x15,[],[],[],25,[]⟩
 (.two (.cmp .eql 3 x8 y2)
 (.two (.cmp .lss 3 x16 x15)
 (.one (.len 44 11)
 (.two (.cmp .lss 3 x16 x17)
 (.one (.row 34 8 x16)
 (.two (.cmp .eql 3 x20 y2)
 (.one (.row 44 11 x16)
 (.rule 75 [x0,x3,x4,x5,x6,x7] [0,1,2,3,4,5,8,9,10] []
 (.rule 152 [x1,x0,y0,y0,(ss []),x12,x13,y0,x15] [0,1,2,3,4,5,6,7,13,14,13,14,8] []
 (.one (.row 44 13 x16)
 (.two (.cmp .gtr 3 x25 x30)
 (.rule 153 [x1,x0,x9,x10,x11,x12,x13,y0,y0,x8,x16,x18,x19,x20,x21,x22,x23,x24,x25,x26,x27,x28,x29,x30] [0,1,2,3,4,5,6,7,11,12,13,14,8] []
 .no
 .no)
 (.one (.inc 3 x16 x15)
 (.again [(16,x31)] [] [] []))))
 .no)
 .no))
 (.one (.inc 3 x16 x15)
 (.again [(16,x21)] [] [] []))))
 (.brk (.exit 2) ⟨[(1,x0),(2,v6),(3,v7),(4,(.ptr 0 0)),(8,ff),(9,x1),(10,(.ptr 5 0)),(13,x8),(14,x9),(58,x1),(59,ff),(62,x9),(63,x1),(64,ff),(65,ff),(66,(.tup [])),(67,(.tup [])),(68,ff),(73,x9),(74,x1),(75,ff),(89,x14),(90,tt),(91,tt),(92,x1),(93,x9),(94,ff),(95,ff),(100,x16),(101,(.ptr 5 1)),(102,v8),(103,x15),(104,tt),(107,x16),(108,v6),(109,x9),(110,(.fp [v11,x10,x11,v12] 0)),(111,(.fp [v11,x10,x11,v12] 0)),(112,v11),(113,x17),(114,ff)],[(0,.row [v0,v1,v2,v3,v4,v5]),(5,.row [x4,v8,v9,x5,x6,v10,x7])],25⟩ []
 (.one (.inc 3 x9 x2)
 (.again [(9,x18)] [] [] [])))))
 (.brk (.exit 2) ⟨[(1,x0),(2,v6),(3,v7),(4,(.ptr 0 0)),(8,ff),(9,x1),(10,(.ptr 5 0)),(13,x8),(14,x9),(58,x1),(59,ff),(62,x9),(63,x1),(64,ff),(65,ff),(66,(.tup [])),(67,(.tup [])),(68,ff),(73,x9),(74,x1),(75,ff),(89,x14),(90,tt),(91,tt),(92,x1),(93,x9),(94,ff),(95,ff),(100,x16),(101,(.ptr 5 1)),(102,v8),(103,x15),(104,ff),(107,(.tup [])),(108,(.tup [])),(109,(.tup [])),(110,(.tup [])),(111,(.tup [])),(112,(.tup [])),(113,(.tup [])),(114,(.tup []))],[(0,.row [v0,v1,v2,v3,v4,v5]),(5,.row [x4,v8,v9,x5,x6,v10,x7])],25⟩ []
 (.one (.inc 3 x9 x2)
 (.again [(9,x17)] [] [] []))))
 (.brk (.exit 2) ⟨[(1,x0),(2,v6),(3,v7),(4,(.ptr 0 0)),(8,ff),(9,x1),(10,(.ptr 5 0)),(13,x8),(14,x9),(58,x1),(59,ff),(62,x9),(63,x1),(64,ff),(65,ff),(66,(.tup [])),(67,(.tup [])),(68,ff),(73,x9),(74,x1),(75,ff),(89,x14),(90,tt),(91,tt),(92,x1),(93,x9),(94,ff),(95,ff),(100,(.tup [])),(101,(.tup [])),(102,(.tup [])),(103,(.tup [])),(104,(.tup [])),(107,(.tup [])),(108,(.tup [])),(109,(.tup [])),(110,(.tup [])),(111,(.tup [])),(112,(.tup [])),(113,(.tup [])),(114,(.tup []))],[(0,.row [v0,v1,v2,v3,v4,v5]),(5,.row [x4,v8,v9,x5,x6,v10,x7])],25⟩ []
 (.one (.inc 3 x9 x2)
 (.again [(9,x17)] [] [] [])))))))
 (.one (.len 34 8)
 (.loop ⟨[1,1,1,1,1,1,0,1,0,0,1,0,0,1,1,1,1,1,1,0],⟨[(1,x0),(2,v6),(3,v7),(4,(.ptr 0 0)),(8,ff),(9,x1),(10,(.ptr 5 0)),(13,x8),(14,x9),(17,x16),(58,x1),(59,ff),(62,x9),(63,x1),(64,ff),(65,ff),(66,(.tup [])),(67,(.tup [])),(68,ff),(73,x9),(74,x1),(75,ff),(89,x14),(90,ff),(91,ff),(92,(.tup [])),(93,(.tup [])),(94,(.tup [])),(95,ff)],[(0,.row [v0,v1,v2,v3,v4,v5]),(5,.row [x4,v8,v9,x5,x6,v10,x7])],25⟩,[(16,y0)],[(16,.nat)],[],[],16,x15,[],[],[],25,[]⟩
 (.two (.cmp .eql 3 x8 y2)
 (.two (.cmp .lss 3 x16 x15)
 (.one (.len 44 11)
 (.two (.cmp .lss 3 x16 x17)
 (.one (.row 34 8 x16)
 (.two (.cmp .eql 3 x20 y2)
 (.one (.row 44 11 x16)
 (.rule 75 [x0,x3,x4,x5,x6,x7] [0,1,2,3,4,5,8,9,10] []
 (.rule 152 [x1,x0,y0,y0,(ss []),x12,x13,y0,x15] [0,1,2,3,4,5,6,7,13,14,13,14,8] []
 (.one (.row 44 13 x16)
 (.two (.cmp .gtr 3 x25 x30)
 (.rule 153 [x1,x0,x9,x10,x11,x12,x13,y0,y0,x8,x16,x18,x19,x20,x21,x22,x23,x24,x25,x26,x27,x28,x29,x30] [0,1,2,3,4,5,6,7,11,12,13,14,8] []
 .no
 .no)
 (.one (.inc 3 x16 x15)
 (.again [(16,x31)] [] [] []))))
 .no)
 .no))
 (.one (.inc 3 x16 x15)
 (.again [(16,x21)] [] [] []))))
 (.brk (.exit 2) ⟨[(1,x0),(2,v6),(3,v7),(4,(.ptr 0 0)),(8,ff),(9,x1),(10,(.ptr 5 0)),(13,x8),(14,x9),(58,x1),(59,ff),(62,x9),(63,x1),(64,ff),(65,ff),(66,(.tup [])),(67,(.tup [])),(68,ff),(73,x9),(74,x1),(75,ff),(89,x14),(90,ff),(91,ff),(92,(.tup [])),(93,(.tup [])),(94,(.tup [])),(95,ff),(100,x16),(101,(.ptr 5 1)),(102,v8),(103,x15),(104,tt),(107,x16),(108,v6),(109,x9),(110,(.fp [v11,x10,x11,v12] 0)),(111,(.fp [v11,x10,x11,v12] 0)),(112,v11),(113,x17),(114,ff)],[(0,.row [v0,v1,v2,v3,v4,v5]),(5,.row [x4,v8,v9,x5,x6,v10,x7])],25⟩ []
 (.one (.inc 3 x9 x2)
 (.again [(9,x18)] [] [] [])))))
 (.brk (.exit 2) ⟨[(1,x0),(2,v6),(3,v7),(4,(.ptr 0 0)),(8,ff),(9,x1),(10,(.ptr 5 0)),(13,x8),(14,x9),(58,x1),(59,ff),(62,x9),(63,x1),(64,ff),(65,ff),(66,(.tup [])),(67,(.tup [])),(68,ff),(73,x9),(74,x1),(75,ff),(89,x14),(90,ff),(91,ff),(92,(.tup [])),(93,(.tup [])),(94,(.tup [])),(95,ff),(100,x16),(101,(.ptr 5 1)),(102,v8),(103,x15),(104,ff),(107,(.tup [])),(108,(.tup [])),(109,(.tup [])),(110,(.tup [])),(111,(.tup [])),(112,(.tup [])),(113,(.tup [])),(114,(.tup []))],[(0,.row [v0,v1,v2,v3,v4,v5]),(5,.row [x4,v8,v9,x5,x6,v10,x7])],25⟩ []
 (.one (.inc 3 x9 x2)
 (.again [(9,x17)] [] [] []))))
 (.brk (.exit 2) ⟨[(1,x0),(2,v6),(3,v7),(4,(.ptr 0 0)),(8,ff),(9,x1),(10,(.ptr 5 0)),(13,x8),(14,x9),(58,x1),(59,ff),(62,x9),(63,x1),(64,ff),(65,ff),(66,(.tup [])),(67,(.tup [])),(68,ff),(73,x9),(74,x1),(75,ff),(89,x14),(90,ff),(91,ff),(92,(.tup [])),(93,(.tup [])),(94,(.tup [])),(95,ff),(100,(.tup [])),(101,(.tup [])),(102,(.tup [])),(103,(.tup [])),(104,(.tup [])),(107,(.tup [])),(108,(.tup [])),(109,(.tup [])),(110,(.tup [])),(111,(.tup [])),(112,(.tup [])),(113,(.tup [])),(114,(.tup []))],[(0,.row [v0,v1,v2,v3,v4,v5]),(5,.row [x4,v8,v9,x5,x6,v10,x7])],25⟩ []
 (.one (.inc 3 x9 x2)
 (.again [(9,x17)] [] [] []))))))))
 .no
 .no))
 .no)))
 .no))
 (.brk (.exit 0) ⟨[(8,ff)],[],6⟩ []
 (.leaf .ret ⟨[(8,tt)],[],0⟩))))
 .no)
 .no)
 .no
 .no)
 .no
 .no)
 .no
 .no)
 .no
 .no))
 (.rule 28 [] [2] []
 (.rule 36 [] [4] []
 (.loop ⟨[1,1,1,1,1,1,0,1,0],⟨[(1,x0),(2,v6),(3,v7),(4,(.ptr 0 0)),(8,ff),(9,x1),(10,(.ptr 3 0)),(13,y1),(14,x4)],[(0,.row [v0,v1,v2,v3,v4,v5]),(3,.row [(ss []),ns,ns,y0,(ss []),ns,ff])],8⟩,[(4,y0)],[(4,.nat)],[],[],4,x2,[],[],[],8,[]⟩
 (.two (.cmp .lss 3 x4 x2)
 (.one (.row 30 6 x4)
 (.call 60 [x0,x5,x6] [0,1,2,3,4,5,8,9,7] []
 (.two (.cmp .eql 3 x4 x1)
 (.rule 148 [x1,x0,x4,x5,x6,y0,(ss []),y0,y0] [0,1,2,3,4,5,6,7,8,9] []
 .no
 .no)
 (.one (.inc 3 x4 x2)
 (.again [(4,x7)] [] [] [])))
 (.two (.cmp .lss 3 x1 y0)
 (.rule 147 [x1,x0,x4,x5,x6,y0,(ss []),y0,y0] [0,1,2,3,4,5,6,7,8,9] []
 .no
 .no)
 (.two (.cmp .eql 3 x4 x1)
 (.one (.inc 3 x4 x2)
 (.again [(4,x7)] [] [] []))
 (.rule 149 [x1,x0] [0,1,2,3,4,5,6,7] []
 (.one (.row 30 6 x1)
 (.call 59 [x7,x8,x5,x6] [10,11,8,9] []
 (.two (.cmp .gtr 3 x9 y0)
 (.rule 150 [x1,x0,x4,x5,x6,x7,x8,x9,y0] [0,1,2,3,4,5,6,7,8,9,10,11] []
 .no
 .no)
 (.two (.cmp .eql 3 x9 y0)
 (.two (.cmp .gtr 3 x1 x4)
 (.rule 151 [x1,x0,x4,x5,x6,x7,x8,x9,y0] [0,1,2,3,4,5,6,7,8,9,10,11] []
 .no
 .no)
 (.one (.inc 3 x4 x2)
 (.again [(4,x10)] [] [] [])))
 (.one (.inc 3 x4 x2)
 (.again [(4,x10)] [] [] []))))
 .no
 .no))
 .no)))
 .no))
 (.brk (.exit 0) ⟨[(8,ff)],[],8⟩ []
 (.leaf .ret ⟨[(8,tt)],[],0⟩))))
 .no)
 .no))
 .no
 .no))))
 .no
 .no)
 .no
 .no)
def f_law:List Fit:=[⟨0,[],[],[]⟩,⟨0,[],[],[]⟩]
def C_lawP:Con:=C_law
def p_law:List Con:=[C_ixHP,C_ixAP,C_ixTP,C_ixFP,C_ixKP,C_ixSP,C_headerAtP,C_actionAtP,C_tableAtP,C_fieldAtP,C_fieldOfP,C_fitsP,C_plainP,C_containsP,C_isNameP,C_nameP,C_fieldsP,C_headersP,C_WidthP,C_KindP,C_CallP,C_stepP,C_actionsP,C_tablesP,C_testP,C_stageP,C_walkTTP,C_walkTFP,C_tallP,C_walkSP,C_walkS0P,C_roundsP,C_statesP,C_CheckP,C_WidthsP,C_kindsP,C_cloKP,C_cloSP,C_cloBP,C_ofP,C_onesP,C_may1P,C_may2P,C_may3P,C_may4P,C_hits1P,C_hits2P,C_hits3P,C_hits4P,C_whoP,C_allKP,C_keyP,C_allHP,C_hitsP,C_compIP,C_compUP,C_compBP,C_compMP,C_compLP,C_orderP,C_hitP,C_bestP,C_shownP]
def L_law:Nat->Prop:=Lf C_law p_law t_law lg false
end Go.Eng.Cons
