/- Part 51. -/
import Derived.Test.YtejafaaihodehaaGreatDoorZ49
set_option linter.all false
set_option maxRecDepth 100000
set_option maxHeartbeats 8000000
namespace Go.Proofs.YtejafaaihodehaaGreatDoor
open Go Go.Deep Go.RowKit Tryz
section
variable {H:Type} {enc:TypeId × Value->H} {w:World} {base:Nat} {jP:Nat->Bool} {held:Bool}
theorem MS{n:Nat}{cs:List Value}{x:DataW H × List MemPlace}(h:DataW.trod enc prog w base jP held n 41 cs=some x):∃r:gw,GR w (fun _=>True) r.gv cs:=by
 obtain⟨r,hr⟩:=Ul h;unfold aa1 at hr;injection hr with hr
 have hc:cs=[.string (bs r.jK),.int .i64 r.code,.bool r.eU,.string (bs r.body),.int .i64 r.bad]:=by
  have:=congrArg Array.toList hr
  simpa using this
 exact⟨r,by rw[hc];exact GY r⟩
theorem JY{v:Value}(h:∃(fuel:Nat) (x:DataW H × List MemPlace),DataW.trod enc prog w base jP held fuel 26 [v]=some x):∃l:List gw,GR w (fun _=>True) (.row 5 (l.map gw.gv)) [v]:=by
 obtain⟨fuel,x,h⟩:=h;exact KP gw.gv underlying26 Bz (fun n cs x h=>MS h) h
end
end Go.Proofs.YtejafaaihodehaaGreatDoor
