/- The table does what the program does. -/
import Derived.Test.YtcpknphdancjjaaGreatDoorTb
import Derived.Test.YtcpknphdancjjaaGreatDoorOk0
import Derived.Test.YtcpknphdancjjaaGreatDoorOk1
import Derived.Test.YtcpknphdancjjaaGreatDoorOk2
import Derived.Test.YtcpknphdancjjaaGreatDoorOk3
import Derived.Test.YtcpknphdancjjaaGreatDoorOk4
import Derived.Test.YtcpknphdancjjaaGreatDoorOk5
namespace Go.Proofs.YtcpknphdancjjaaGreatDoor.Ev
open GoEv
theorem all_ok : tbl.All (FOK Tryz.prog X (theD Tryz.prog X)) := ⟨⟨⟨⟨⟨⟨⟨ok3, ok4⟩, ⟨ok5, ok6⟩⟩, ⟨⟨ok7, ok8⟩, ⟨ok9, ⟨ok10, ok11⟩⟩⟩⟩, ⟨⟨⟨ok12, ok13⟩, ⟨ok14, ⟨ok15, ok16⟩⟩⟩, ⟨⟨ok17, ok18⟩, ⟨ok19, ⟨ok20, ok21⟩⟩⟩⟩⟩, ⟨⟨⟨⟨ok22, ok23⟩, ⟨ok25, ok26⟩⟩, ⟨⟨ok27, ok28⟩, ⟨ok29, ⟨ok30, ok31⟩⟩⟩⟩, ⟨⟨⟨ok32, ok37⟩, ⟨ok38, ⟨ok39, ok40⟩⟩⟩, ⟨⟨ok41, ok42⟩, ⟨ok43, ⟨ok46, ok47⟩⟩⟩⟩⟩⟩, ⟨⟨⟨⟨⟨ok48, ok49⟩, ⟨ok50, ok51⟩⟩, ⟨⟨ok52, ok55⟩, ⟨ok56, ⟨ok57, ok58⟩⟩⟩⟩, ⟨⟨⟨ok59, ok60⟩, ⟨ok62, ⟨ok63, ok64⟩⟩⟩, ⟨⟨ok65, ok66⟩, ⟨ok67, ⟨ok69, ok76⟩⟩⟩⟩⟩, ⟨⟨⟨⟨ok77, ok78⟩, ⟨ok80, ok81⟩⟩, ⟨⟨ok82, ok83⟩, ⟨ok85, ⟨ok86, ok87⟩⟩⟩⟩, ⟨⟨⟨ok89, ok90⟩, ⟨ok91, ⟨ok92, ok93⟩⟩⟩, ⟨⟨ok94, ok95⟩, ⟨ok96, ⟨ok97, ok98⟩⟩⟩⟩⟩⟩⟩, ⟨⟨⟨⟨⟨⟨ok100, ok103⟩, ⟨ok104, ok105⟩⟩, ⟨⟨ok106, ok107⟩, ⟨ok108, ⟨ok109, ok110⟩⟩⟩⟩, ⟨⟨⟨ok113, ok117⟩, ⟨ok118, ⟨ok119, ok120⟩⟩⟩, ⟨⟨ok122, ok124⟩, ⟨ok126, ⟨ok127, ok128⟩⟩⟩⟩⟩, ⟨⟨⟨⟨ok132, ok137⟩, ⟨ok138, ok141⟩⟩, ⟨⟨ok142, ok143⟩, ⟨ok150, ⟨ok151, ok153⟩⟩⟩⟩, ⟨⟨⟨ok154, ok155⟩, ⟨ok156, ⟨ok157, ok158⟩⟩⟩, ⟨⟨ok159, ok160⟩, ⟨ok163, ⟨ok164, ok168⟩⟩⟩⟩⟩⟩, ⟨⟨⟨⟨⟨ok169, ok170⟩, ⟨ok171, ok179⟩⟩, ⟨⟨ok184, ok186⟩, ⟨ok187, ⟨ok188, ok191⟩⟩⟩⟩, ⟨⟨⟨ok192, ok196⟩, ⟨ok197, ⟨ok203, ok205⟩⟩⟩, ⟨⟨ok206, ok207⟩, ⟨ok208, ⟨ok210, ok223⟩⟩⟩⟩⟩, ⟨⟨⟨⟨ok236, ok237⟩, ⟨ok240, ⟨ok244, ok262⟩⟩⟩, ⟨⟨ok263, ok266⟩, ⟨ok279, ⟨ok280, ok281⟩⟩⟩⟩, ⟨⟨⟨ok303, ok304⟩, ⟨ok308, ⟨ok321, ok328⟩⟩⟩, ⟨⟨ok329, ok346⟩, ⟨ok368, ⟨ok377, ok378⟩⟩⟩⟩⟩⟩⟩⟩
end Go.Proofs.YtcpknphdancjjaaGreatDoor.Ev
