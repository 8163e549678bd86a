/- MatchBest. -/
import Derived.Shelf.SlGeneric
import Derived.Shelf.SlicesE.Clone
import Derived.Ground.SlgnProg
import Derived.Test.YtojegdhjkcllfaaGreatDoorProg
namespace Go.Proofs
open Go.Shelf
def Tryz.clK_ren:Go.Shelf.Ren:=⟨fun |41=>69 |n=>n,fun |22=>34 |23=>51 |4=>4 |n=>n,fun |n=>n⟩
theorem Tryz.clK:Go.Proofs.SlLaysE0.n41 Tryz.prog Tryz.clK_ren:={
 mixed:=by kernel_rfl
 f41:=⟨Tryz.f69.name,by decide,Tryz.func69.trans (congrArg some (by kernel_rfl))⟩
 t4:=Tryz.underlying4
 a4:=Tryz.isAgg4
 z4:=Tryz.sizeOf4
 v4:=Tryz.zeroValue4
 t22:=Tryz.underlying34
 a22:=Tryz.isAgg34
 z22:=Tryz.sizeOf34
 v22:=Tryz.zeroValue34}
def Tryz.clS_ren:Go.Shelf.Ren:=⟨fun |41=>70 |n=>n,fun |22=>35 |23=>9 |4=>4 |n=>n,fun |n=>n⟩
theorem Tryz.clS:Go.Proofs.SlLaysE0.n41 Tryz.prog Tryz.clS_ren:={
 mixed:=by kernel_rfl
 f41:=⟨Tryz.f70.name,by decide,Tryz.func70.trans (congrArg some (by kernel_rfl))⟩
 t4:=Tryz.underlying4
 a4:=Tryz.isAgg4
 z4:=Tryz.sizeOf4
 v4:=Tryz.zeroValue4
 t22:=Tryz.underlying35
 a22:=Tryz.isAgg35
 z22:=Tryz.sizeOf35
 v22:=Tryz.zeroValue35}
def Tryz.clB_ren:Go.Shelf.Ren:=⟨fun |41=>71 |n=>n,fun |22=>31 |23=>54 |4=>4 |n=>n,fun |n=>n⟩
theorem Tryz.clB:Go.Proofs.SlLaysE0.n41 Tryz.prog Tryz.clB_ren:={
 mixed:=by kernel_rfl
 f41:=⟨Tryz.f71.name,by decide,Tryz.func71.trans (congrArg some (by kernel_rfl))⟩
 t4:=Tryz.underlying4
 a4:=Tryz.isAgg4
 z4:=Tryz.sizeOf4
 v4:=Tryz.zeroValue4
 t22:=Tryz.underlying31
 a22:=Tryz.isAgg31
 z22:=Tryz.sizeOf31
 v22:=Tryz.zeroValue31}
end Go.Proofs
