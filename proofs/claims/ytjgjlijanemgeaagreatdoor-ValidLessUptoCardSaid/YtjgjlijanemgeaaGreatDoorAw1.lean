/- The law's first call, run by the kernel. -/
import Derived.Test.YtjgjlijanemgeaaGreatDoorAc4
set_option linter.unusedSimpArgs false
set_option linter.unusedVariables false
namespace Go.Abs
open Go Pr
theorem awake2_of {f n:Nat}{F:IFn}(hp:PR.prim f=none) (hF:PR.fn f=some F) (hpure:F.pure=true) (hr:∀o o2:Obj,isT (evCall PR (n+1) 2 (.fn f [] []) [] ⟨2,.n (some o) (.n (some o2) .e .e) .e⟩)=true):Awake2 f:=λd mk o o2 hmk=>by
 obtain⟨h',e⟩:=qvf (hr o o2);have hm:h'=⟨2,.n (some o) (.n (some o2) .e .e) .e⟩:=quX hp hF hpure e _ (List.mem_singleton.2 rfl);subst hm;exact WF.lower qda (WF.ran (d:=d) qda e) hmk
end Go.Abs

