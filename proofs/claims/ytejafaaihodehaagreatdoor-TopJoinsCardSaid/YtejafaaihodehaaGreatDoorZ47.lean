/- Part 47. -/
import Derived.Test.YtejafaaihodehaaGreatDoorZ16
import Derived.Test.YtejafaaihodehaaGreatDoorZ35
set_option linter.all false
set_option maxRecDepth 100000
set_option maxHeartbeats 8000000
namespace Go.Proofs.YtejafaaihodehaaGreatDoor
open Go Go.RowKit Tryz
def kj:Bt:=[104,116,116,112,58,47,47,104,47,112]
def vO:Bt:=[97,60,101,115,105,58,105,110,99,108,117,100,101,32,115,114,99,61,34,47,120,34,47,62,98]
def Lv:Bt:=[104,116,116,112,58,47,47,104,47,120]
def kU:gw:=⟨Lv,200,false,[88],0⟩
def qa:List Elem:=[.mk 1 [97] [] [] false [] [],.mk 2 [] [47,120] [] false [] [],.mk 1 [98] [] [] false [] []]
theorem GS:cM vO=(qa,0):=by rfl
theorem Lw:fN kj=(⟨true,[104],0,[47,112],false,[]⟩,0):=by rfl
theorem FM:dA kj [47,120]=(Lv,0):=by rfl
theorem Lx(D:lq)(hs:D.sub [47,120]=[47,120])(hr:D.cN=[kU]):ku D kj vO=dL [97,88,98]:=by
 have ht:gJ D 4 kj qa [47,120] 0=(dL [88],1):=by
  show iP D false _ kj qa [47,120] 0=_
  unfold iP;rw[hs];have hi:ei [47,120] qa=none:=by rfl
  rw[hi];simp only[FM,hr];rfl
 unfold ku;rw[GS,aa (fun h=>h rfl)]
 show(cT D (gJ D 4 kj qa) false 0 [] [.mk 1 [97] [] [] false [] [],.mk 2 [] [47,120] [] false [] [],.mk 1 [98] [] [] false [] []] 0).1=_
 generalize gJ D 4 kj qa=tk at ht;simp[jf,IA,Elem.kind,Elem.text,Elem.src,Elem.jZ,Elem.fp,dL,kP,ht,eF,cT,fo.ia]
def rK:lq:=⟨fun s=>s,fun _=>(false,0),[kU],false⟩
def ak3:cK:=⟨[],[],[],[],[],[]⟩
theorem uO{v:cK}{D:lq}(hD:D.sub=fun s=>s){s:Bt}(hs:s.length<=100000)(hi:Lib.index s [36,40]=-1):GN v D s:=by
 unfold GN;rw[hD];exact⟨by show s.length<=10000000;omega,fun W hg=>Rc v s hs hi W hg⟩
theorem Jf{v:cK}{D:lq}(hD:D.sub=fun s=>s){s:Bt}(hs:s.length<=100000)(hi:Lib.index s [36,40]=-1)(ha:∀c∈s.drop 7,c.toNat<128):oX v D s:=
 ⟨uO hD hs hi,by rw[hD];exact wI s hs ha⟩
theorem Uj{v:cK}{D:lq}(hD:D.sub=fun s=>s){s:Bt}(hs:s.length<=100000)(hi:Lib.index s [36,40]=-1):Q5 v D (.mk 1 s [] [] false [] []):=by
 rw[Q5];refine⟨hs,uO hD hs hi,fun h=>?_,fun h=>?_,fun h=>?_,fun h=>?_,?_⟩
 ·exact aX h (by decide)
 ·exact aX h (by decide)
 ·exact aX h (by decide)
 ·exact aX h (by decide)
 ·rw[tL];trivial
theorem Rh{v:cK}{D:lq}(hD:D.sub=fun s=>s){s a:Bt}{b:Bool}(hs:oX v D s)(ha:a≠[]->oX v D a):Q5 v D (.mk 2 [] s a b [] []):=by
 rw[Q5];refine⟨by simp,uO hD (by simp) (by decide),fun h=>⟨hs,ha⟩,fun h=>?_,fun h=>?_,fun h=>?_,?_⟩
 ·exact aX h (by decide)
 ·exact aX h (by decide)
 ·exact aX h (by decide)
 ·rw[tL];trivial
theorem DC{v:cK}{D:lq}{e:Elem}{l:List Elem}(h:Q5 v D e)(hl:tL v D l):tL v D (e::l):=by rw[tL];exact⟨h,hl⟩
theorem Xi{v:cK}{D:lq}:tL v D []:=by rw[tL];trivial
theorem Uk:tL ak3 rK qa:=
 DC (Uj rfl (by decide) (by decide)) (DC (Rh rfl (Jf rfl (by decide) (by decide) (by decide)) (fun h=>aX rfl h)) (DC (Uj rfl (by decide) (by decide)) Xi))
theorem Ri:iZ rK kj vO true=(dL [97,88,98],0):=by
 have hw:=Lx rK rfl rfl;unfold iZ;rw[hw,ae (by unfold lB;rw[Lw];rfl)];rfl
theorem pt(w:World)(hg:eK w):Calls prog 8 #[] w fun e w'=>e=.returned (.bool true)/\Below w.heap.size w w':=by
 have cg:Below w.heap.size w (w.alloc (.cells (dT kU) 41)):=cU _ _;have FA:=bL.new w 41 (dT kU);have cO:GR (w.alloc (.cells (dT kU) 41)) (fun _=>True) (.row 5 (rK.cN.map gw.gv)) [.slice (some ⟨w.heap.size,0,none⟩) 1 1]:=by
  refine ss (cs:=[.string (bs kU.jK),.int .i64 kU.code,.bool kU.eU,.string (bs kU.body),.int .i64 kU.bad]) FA trivial ?_ rfl;exact nN.2 (cd.2 ⟨[_],_,rfl,eQ.2 rfl,cd.2 ⟨[_],_,rfl,lK.2 rfl,cd.2 ⟨[_],_,rfl,sr.2 rfl,cd.2 ⟨[_],_,rfl,eQ.2 rfl,cd.2 ⟨[_],[],rfl,lK.2 rfl,ma.2 rfl⟩⟩⟩⟩⟩)
 have wQ:=bD (Oi ak3 rK kj vO true _ _ (wI kj (by decide) (by decide)) rfl (fun r hr he=>by
  have:r=kU:=by simpa[rK]using hr
  rw[this]at he;cases he) (fun _=>by rw[GS];exact Uk) (by decide) _ (hg.below cg) cO)
 rw[Ri]at wQ;have HB:=bD cg;have hq:∀W:World,(binOp .eql 31 (dL [97,88,98]).val (.agg #[.string ⟨#[97,88,98]⟩,.int .i64 0,.int .i64 0,.string ⟨#[]⟩])).run prog W=.ok (.bool true) W:=fun W=>by kernel_rfl
 have HQ:=bD hq;clear cg FA cO hq hg;go_enter func8,ntmps8;go_wp2_with fail;refine wQ.o.mono ?_;rintro e w1 ⟨rfl,dG⟩;have hJ:=bD (HB.o.trans (dG.mono HB.o.size));clear dG;simp only[fo.val,dL]at HQ|-;have hq:=HQ.o;have cg:=(cU w1 (.cells (bI (dL [97,88,98])) 31));have dm:=bD (hJ.o.trans (cg.mono hJ.o.size));clear cg;go_wp2_with fail;go_ret;exact⟨rfl,dm.o⟩
end Go.Proofs.YtejafaaihodehaaGreatDoor
