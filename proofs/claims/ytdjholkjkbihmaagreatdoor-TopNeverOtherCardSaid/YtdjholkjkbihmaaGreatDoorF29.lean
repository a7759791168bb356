/- Laws and walks of TopNeverOther. -/
import Derived.Test.YtdjholkjkbihmaaGreatDoorRows
import Derived.ProofKit
import Derived.JoinedOf
namespace Go.Proofs.YtdjholkjkbihmaaGreatDoor
open Go.RowKit
set_option maxRecDepth 100000
set_option maxHeartbeats 4000000
section
open Go.RowKit Go.ChangeShapes
noncomputable abbrev jP :Program:=Tryz.pinned.checked.prog
abbrev jS :ChangeSpec:=(OpenSpec.ofChange Rows.topNeverOtherSpec).bare
abbrev jC :OpenClaim:=Rows.topNeverOtherRow
theorem jfb {a b:Bool}(h1:a=true)(h2:b=true):(a&&b)=true:=by rw[h1,h2];rfl
theorem jf0 :(jC.wf (OpenSpec.ofChange jS))=true:=by kernel_rfl
theorem jf1 :(laidOutB jP)=true:=by kernel_rfl
theorem jf2 :(mapsRowed jP)=true:=by kernel_rfl
theorem jf3 :(Tryz.f3.params.all (jP.readableRec ·))=true:=by kernel_rfl
theorem jf4 :(namedTie jP jC.named jS.vars)=true:=by kernel_rfl
theorem jf5 :((jC.stops == []))=true:=by kernel_rfl
theorem jf6 :((jP.stops == []))=true:=by kernel_rfl
theorem jf7 :((jC.knobs == []))=true:=by kernel_rfl
theorem jf8 :((jP.stopKnobs == []))=true:=by kernel_rfl
theorem jf9 :((jC.inPlace==jP.inPlace 3))=true:=by kernel_rfl
theorem jf10 :((jC.unfollowed==jP.unfollowed 3))=true:=by kernel_rfl
theorem jf11 :((jC.recurses==jP.recurses 3))=true:=by kernel_rfl
theorem jf12 :((jC.named==jP.varsNamed 3))=true:=by kernel_rfl
theorem jf13 :((jC.maps==(Tryz.f3.params.toList++jS.plain.varTypes jP).any (jP.mapsRec ·)))=true:=by kernel_rfl
theorem jf14 :((jC.ifaces==(Tryz.f3.params.toList++jS.plain.varTypes jP).any (jP.ifacesRec ·)))=true:=by kernel_rfl
theorem jf15 :((jC.mapsOut==jP.mapsAmong Tryz.f3.resultTypes.toList))=true:=by kernel_rfl
theorem jf16 :((jC.loops==(Tryz.f3.params.toList++jS.plain.varTypes jP).any (jP.loopsFrom ·)))=true:=by kernel_rfl
theorem jf17 :((jC.wideKeys==(Tryz.f3.params.toList++jS.plain.varTypes jP++Tryz.f3.resultTypes.toList).any (jP.wideKeysFrom ·)))=true:=by kernel_rfl
theorem jf18 :(jS.vars.all (jP.varReadable ·))=true:=by kernel_rfl
theorem jf19 :(Tryz.f3.resultTypes.all (fun t=>jP.readableRec t&&decide (t<jP.types.size)))=true:=by kernel_rfl
theorem jf20 :((jC.ifacesOut==Tryz.f3.resultTypes.toList.any (jP.ifacesRec ·)))=true:=by kernel_rfl
theorem jf21 :((jC.loopsOut==Tryz.f3.resultTypes.toList.any (jP.loopsFrom ·)))=true:=by kernel_rfl
theorem jf22 :((jC.plainKeys==jP.plainKeys))=true:=by kernel_rfl
theorem jf23 :(jC.shortTexts.isNone)=true:=by kernel_rfl
theorem jf24 :(jP.stopsHeard)=true:=by kernel_rfl
theorem jf25 :(jP.mayEnter)=true:=by kernel_rfl
theorem jf26 :((jC.lifted==jP.liftsFinal))=true:=by kernel_rfl
theorem jf27 :((jP.make==some jC.make))=true:=by kernel_rfl
theorem jf28 :((jC.kinds==(if jC.domain.isEmpty then [] else Tryz.f3.params.toList.map fun t=>match jP.underlying t with | some (.int k)=>some k | _=>none)))=true:=by kernel_rfl
theorem jf29 :((jC.pinned==jC.pinnedBy))=true:=by kernel_rfl
theorem jf30 :((jC.veiled==(Tryz.f3.params.toList++jS.plain.varTypes jP++Tryz.f3.resultTypes.toList).any (jP.veiledRec ·)))=true:=by kernel_rfl
theorem jf31 :(jC.veiledFits jP Tryz.f3.params.toList (Tryz.f3.params.toList++jS.plain.varTypes jP++Tryz.f3.resultTypes.toList))=true:=by kernel_rfl
theorem jfAll :joinedFacts jP 3 Tryz.f3 jS jC=true:=jfb (jfb (jfb (jfb (jfb (jfb (jfb (jfb (jfb (jfb (jfb (jfb (jfb (jfb (jfb (jfb (jfb (jfb (jfb (jfb (jfb (jfb (jfb (jfb (jfb (jfb (jfb (jfb (jfb (jfb (jfb jf0 jf1) jf2) jf3) jf4) jf5) jf6) jf7) jf8) jf9) jf10) jf11) jf12) jf13) jf14) jf15) jf16) jf17) jf18) jf19) jf20) jf21) jf22) jf23) jf24) jf25) jf26) jf27) jf28) jf29) jf30) jf31
end
end Go.Proofs.YtdjholkjkbihmaaGreatDoor
