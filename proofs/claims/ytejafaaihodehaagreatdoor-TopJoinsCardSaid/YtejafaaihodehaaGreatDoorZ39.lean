/- Part 39. -/
import Derived.Test.YtejafaaihodehaaGreatDoorZ11
import Derived.Test.YtejafaaihodehaaGreatDoorZ38
set_option linter.all false
set_option maxRecDepth 100000
set_option maxHeartbeats 8000000
namespace Go.Proofs.YtejafaaihodehaaGreatDoor
open Go Go.RowKit Tryz
def uY:Bt:=[79,84,72,69,82]
def He:Bt:=[77,83,73,69]
def Js:Bt:=[77,83,73,69,32]
def UP:Bt:=[77,111,122,105,108,108,97]
def uZ:Bt:=[77,79,90,73,76,76,65]
def vT:Bt:=[77,111,122,105,108,108,97,47]
def u7:Bt:=[48,49,50,51,52,53,54,55,56,57,46]
def wD(r:Bt):Bt:=r.take (r.length-(Lib.trimLeftS r u7).length)
def ld(s:Bt):Bt × Bt:=
 if Lib.contains s He then(He,wD (Lib.cut s Js).2.1)
 else if Lib.contains s UP then(uZ,wD (Lib.cut s vT).2.1)
 else(uY,[])
def sY(s:Bt):Bt:=
 if Lib.contains s [87,105,110,100,111,119,115]then[87,73,78]
 else if Lib.contains s [77,97,99]then[77,65,67]
 else if Lib.contains s [88,49,49]then[85,78,73,88]
 else uY
theorem oZ(s:Bt)(c:Array UInt8)(hs:s.length<=1000000)(w:World)(hg:eK w):
 Calls prog 10 #[.string (bs s),.string ⟨c⟩] w fun e w'=>e=.returned (.bool (Lib.contains s c.toList))/\w=w':=by
 obtain⟨m,hm⟩:=hg.1;refine(strings_Contains (bs s) ⟨c⟩ m w (by rw[bJ];omega) hm).mono ?_;rintro e w' ⟨rfl,rfl⟩;exact⟨by show Ending.returned (.bool (Lib.contains (L (bs s)) c.toList))=_;rw[eB],rfl⟩
def b6:Array Value:=#[.string (bs He),.string (bs He),.string (bs Js),.string (bs UP),.string (bs uZ),.string (bs vT)]
theorem L0(s:Bt)(hs:s.length<=10000)(w:World)(hg:eK w):Calls prog 186 #[.string (bs s)] w fun e w'=>
 e=.returned (.tuple #[.string (bs (ld s).1),.string (bs (ld s).2),.string (bs (sY s))])/\Below w.heap.size w w':=by
 have HG:=bD (fun W (hb:Below w.heap.size w W)=>hg.below hb);have OL:=bD (fun c W (hb:Below w.heap.size w W)=>oZ s c (by omega) W (hg.below hb));have As:Hy (ld s=if Lib.contains s [77,83,73,69]then(He,wD (Lib.cut s Js).2.1)
  else if Lib.contains s [77,111,122,105,108,108,97]then(uZ,wD (Lib.cut s vT).2.1)
  else(uY,[])):=rfl
 have P1:Hy (sY s=if Lib.contains s [87,105,110,100,111,119,115]then[87,73,78]
  else if Lib.contains s [77,97,99]then[77,65,67]
  else if Lib.contains s [88,49,49]then[85,78,73,88]
  else uY):=rfl
 have HS:=bD hs;generalize ld s=BF at*;generalize sY s=SF at*;clear hg hs;go_enter func186,ntmps186;go_upto_block 0 with fail
 have cg:Below w.heap.size w (w.alloc (.cells #[.string ⟨#[77,83,73,69]⟩,.string ⟨#[77,83,73,69]⟩,.string ⟨#[77,83,73,69,32]⟩,.string ⟨#[77,111,122,105,108,108,97]⟩,.string ⟨#[77,79,90,73,76,76,65]⟩,.string ⟨#[77,111,122,105,108,108,97,47]⟩] 254)):=cU _ _;have Oe:=bL.new w 254 #[.string ⟨#[77,83,73,69]⟩,.string ⟨#[77,83,73,69]⟩,.string ⟨#[77,83,73,69,32]⟩,.string ⟨#[77,111,122,105,108,108,97]⟩,.string ⟨#[77,79,90,73,76,76,65]⟩,.string ⟨#[77,111,122,105,108,108,97,47]⟩];change Code.wp _ _ _ _ (w.alloc (.cells #[.string ⟨#[77,83,73,69]⟩,.string ⟨#[77,83,73,69]⟩,.string ⟨#[77,83,73,69,32]⟩,.string ⟨#[77,111,122,105,108,108,97]⟩,.string ⟨#[77,79,90,73,76,76,65]⟩,.string ⟨#[77,111,122,105,108,108,97,47]⟩] 254));generalize w.alloc (.cells #[.string ⟨#[77,83,73,69]⟩,.string ⟨#[77,83,73,69]⟩,.string ⟨#[77,83,73,69,32]⟩,.string ⟨#[77,111,122,105,108,108,97]⟩,.string ⟨#[77,79,90,73,76,76,65]⟩,.string ⟨#[77,111,122,105,108,108,97,47]⟩] 254)=w1 at*;have nz:=bD cg;have HK0:=bD Oe;clear cg Oe;go_cut [5,6]from 9 to 46 (fun b v wx=>b=.string (bs BF.1)/\v=.string (bs BF.2)/\Hy (Below w.heap.size w wx))
 case first=>
  clear P1;go_wp2_with fail;go_loopw [5,6,9,10,11,12,19] (fun b v _ _ _ _ i wr=>∃k:Nat,k<=2/\i=.int .i64 k/\b=.string ⟨#[79,84,72,69,82]⟩/\v=.string ⟨#[]⟩/\Hy (bL wr w.heap.size 254 #[.string ⟨#[77,83,73,69]⟩,.string ⟨#[77,83,73,69]⟩,.string ⟨#[77,83,73,69,32]⟩,.string ⟨#[77,111,122,105,108,108,97]⟩,.string ⟨#[77,79,90,73,76,76,65]⟩,.string ⟨#[77,111,122,105,108,108,97,47]⟩])/\Hy (Below w.heap.size w wr)/\
   Hy ((1<=k->Lib.contains s [77,83,73,69]=false)/\(2<=k->Lib.contains s [77,111,122,105,108,108,97]=false)))
   (fun _ _ _ _ _ _ i wr=>2-(intOf i).toNat)
  case atStart=>exact⟨0,by omega,rfl,rfl,rfl,HK0.o,nz.o,⟨fun h=>by omega,fun h=>by omega⟩⟩
  case round=>
   clear HK0 nz;obtain⟨k,hk,rfl,rfl,rfl,HK,HB,HN⟩:=hrel;rcases(by omega:k=0\/k=1\/k=2)with rfl|rfl|rfl
   ·
    obtain⟨Bc,uv,nC⟩:=nw HK.o;simp at Bc uv nC;have Dm:=bD ((HB.o.alloc HB.o.size (.cells #[.string ⟨#[77,83,73,69]⟩,.string ⟨#[77,83,73,69]⟩,.string ⟨#[77,83,73,69,32]⟩] 254)));have Kc:=bD (bL.new wr 254 #[.string ⟨#[77,83,73,69]⟩,.string ⟨#[77,83,73,69]⟩,.string ⟨#[77,83,73,69,32]⟩]);have Am:=bD (HK.o.alloc (.cells #[.string ⟨#[77,83,73,69]⟩,.string ⟨#[77,83,73,69]⟩,.string ⟨#[77,83,73,69,32]⟩] 254));go_upto_region 5 with(fail)
    change Code.wp _ _ _ _ (wr.alloc (.cells #[.string ⟨#[77,83,73,69]⟩,.string ⟨#[77,83,73,69]⟩,.string ⟨#[77,83,73,69,32]⟩] 254));generalize wr.alloc (.cells #[.string ⟨#[77,83,73,69]⟩,.string ⟨#[77,83,73,69]⟩,.string ⟨#[77,83,73,69,32]⟩] 254)=w2 at*;generalize wr.heap.size=X at*;clear Bc uv nC HK HB;obtain⟨d0,d1,d2⟩:=nw Kc.o;simp at d0 d1 d2;have tY:=bD (OL.o #[77,83,73,69] w2 Dm.o);rw[show(#[77,83,73,69]:Array UInt8).toList=[77,83,73,69]from rfl]at tY;cases rF:Lib.contains s [77,83,73,69]with
    |true=>
     rw[rF]at tY;have F0:Hy (BF=(He,wD (Lib.cut s Js).2.1)):=by rw[Hy,As.o,rF];rfl
     clear rF As HN;go_wp2_with fail;refine tY.o.mono ?_;rintro e w3 ⟨rfl,rfl⟩;go_wp2_with fail;refine(jT (bs s) [77,83,73,69,32] (by rw[bJ];have:=HS.o;omega) _ (HG.o _ Dm.o)).mono ?_;rintro e w3 ⟨a,b,f,d,rfl,zK,tE⟩;rw[eB]at zK;have fm:Below w.heap.size w w3:=by rw[tE];exact Dm.o.trans ⟨rfl,rfl,rfl,dv _,fun _ _=>rfl⟩
     have gI:=bD fm;have tC:=(je s [77,83,73,69,32]).2;have HVF:Hy (BF.2=wD b):=by rw[Hy,F0.o];show wD (Lib.cut s [77,83,73,69,32]).2.1=_;rw[zK.o]
     have ab6:Hy (BF.1=He):=by rw[Hy,F0.o]
     rw[zK.o]at tC;have mP:b.length<=10000:=by have:b.length<=s.length:=tC;have:=HS.o;omega
     have Fy:(Lib.trimLeftS b u7).length<=b.length:=jX _ _;have HTR:Hy (Calls prog 201 #[.string (bs b),.string ⟨#[48,49,50,51,52,53,54,55,56,57,46]⟩] w3 fun e w'=>e=.returned (.string (bs (Lib.trimLeftS b u7)))/\Below w3.heap.size w3 w'):=by
      have h:=nd (bs b) ⟨#[48,49,50,51,52,53,54,55,56,57,46]⟩ w3 (by decide) (ascii_of_all (by decide));refine Calls.mono h ?_;rintro e w' ⟨rfl,hb⟩;refine⟨?_,hb⟩
      show Ending.returned (.string ⟨(Lib.trimLeftS (L (bs b)) u7).toArray⟩)=_
      rw[eB];rfl
     have BB:Hy (wD b=b.take (b.length-(Lib.trimLeftS b u7).length)):=rfl;generalize Lib.trimLeftS b u7=T at*;clear tE fm tC zK F0 tY OL HG;go_wp2_with fail;refine HTR.o.mono ?_;rintro e w4 ⟨rfl,eY⟩;have iW:=bD (gI.o.trans (eY.mono gI.o.size));have q1:IntKind.i64.wrap ((b.length:Int)-(T.length:Int))=(b.length:Int)-(T.length:Int):=aI _ (by omega);have q2:(0:Int)<=(b.length:Int)-(T.length:Int):=by omega
     have q3:(b.length:Int)-(T.length:Int)<=(b.length:Int):=by omega
     have q4:((bs b).size:Int)=(b.length:Int):=by rw[bJ]
     have q5:((bs T).size:Int)=(T.length:Int):=by rw[bJ]
     have q6:((b.length:Int)-(T.length:Int)).toNat=b.length-T.length:=by omega
     clear eY;go_wp2_with fail;go_meet
     case rel=>exact⟨by rw[ab6.o];rfl,by rw[HVF.o,BB.o];rw[oF],iW.o⟩
    |false=>
     rw[rF]at tY;have yc:Hy ((1<=1->Lib.contains s [77,83,73,69]=false)/\(2<=1->Lib.contains s [77,111,122,105,108,108,97]=false)):=by exact⟨fun _=>rF,fun h=>by omega⟩
     clear rF HN;go_wp2_with fail;refine tY.o.mono ?_;rintro e w3 ⟨rfl,rfl⟩;go_wp2_with fail;go_roundw
     case rel=>exact⟨1,by omega,by go_num,rfl,rfl,Am.o,Dm.o,yc.o⟩
     case measure=>simp[intOf]
   ·
    have Bc:=HK.o.cell 3;have uv:=HK.o.cell 4;have nC:=HK.o.cell 5;simp at Bc uv nC;have Dm:=bD ((HB.o.alloc HB.o.size (.cells #[.string ⟨#[77,111,122,105,108,108,97]⟩,.string ⟨#[77,79,90,73,76,76,65]⟩,.string ⟨#[77,111,122,105,108,108,97,47]⟩] 254)));have Kc:=bD (bL.new wr 254 #[.string ⟨#[77,111,122,105,108,108,97]⟩,.string ⟨#[77,79,90,73,76,76,65]⟩,.string ⟨#[77,111,122,105,108,108,97,47]⟩]);have Am:=bD (HK.o.alloc (.cells #[.string ⟨#[77,111,122,105,108,108,97]⟩,.string ⟨#[77,79,90,73,76,76,65]⟩,.string ⟨#[77,111,122,105,108,108,97,47]⟩] 254));go_upto_region 5 with(fail)
    change Code.wp _ _ _ _ (wr.alloc (.cells #[.string ⟨#[77,111,122,105,108,108,97]⟩,.string ⟨#[77,79,90,73,76,76,65]⟩,.string ⟨#[77,111,122,105,108,108,97,47]⟩] 254));generalize wr.alloc (.cells #[.string ⟨#[77,111,122,105,108,108,97]⟩,.string ⟨#[77,79,90,73,76,76,65]⟩,.string ⟨#[77,111,122,105,108,108,97,47]⟩] 254)=w2 at*;generalize wr.heap.size=X at*;clear Bc uv nC HK HB;obtain⟨d0,d1,d2⟩:=nw Kc.o;simp at d0 d1 d2;have tY:=bD (OL.o #[77,111,122,105,108,108,97] w2 Dm.o);rw[show(#[77,111,122,105,108,108,97]:Array UInt8).toList=[77,111,122,105,108,108,97]from rfl]at tY;cases rF:Lib.contains s [77,111,122,105,108,108,97]with
    |true=>
     rw[rF]at tY;have F0:Hy (BF=(uZ,wD (Lib.cut s vT).2.1)):=by rw[Hy,As.o,HN.o.1 (dv _),rF];rfl
     clear rF As HN;go_wp2_with fail;refine tY.o.mono ?_;rintro e w3 ⟨rfl,rfl⟩;go_wp2_with fail;refine(jT (bs s) [77,111,122,105,108,108,97,47] (by rw[bJ];have:=HS.o;omega) _ (HG.o _ Dm.o)).mono ?_;rintro e w3 ⟨a,b,f,d,rfl,zK,tE⟩;rw[eB]at zK;have fm:Below w.heap.size w w3:=by rw[tE];exact Dm.o.trans ⟨rfl,rfl,rfl,dv _,fun _ _=>rfl⟩
     have gI:=bD fm;have tC:=(je s [77,111,122,105,108,108,97,47]).2;have HVF:Hy (BF.2=wD b):=by rw[Hy,F0.o];show wD (Lib.cut s [77,111,122,105,108,108,97,47]).2.1=_;rw[zK.o]
     have ab6:Hy (BF.1=uZ):=by rw[Hy,F0.o]
     rw[zK.o]at tC;have mP:b.length<=10000:=by have:b.length<=s.length:=tC;have:=HS.o;omega
     have Fy:(Lib.trimLeftS b u7).length<=b.length:=jX _ _;have HTR:Hy (Calls prog 201 #[.string (bs b),.string ⟨#[48,49,50,51,52,53,54,55,56,57,46]⟩] w3 fun e w'=>e=.returned (.string (bs (Lib.trimLeftS b u7)))/\Below w3.heap.size w3 w'):=by
      have h:=nd (bs b) ⟨#[48,49,50,51,52,53,54,55,56,57,46]⟩ w3 (by decide) (ascii_of_all (by decide));refine Calls.mono h ?_;rintro e w' ⟨rfl,hb⟩;refine⟨?_,hb⟩
      show Ending.returned (.string ⟨(Lib.trimLeftS (L (bs b)) u7).toArray⟩)=_
      rw[eB];rfl
     have BB:Hy (wD b=b.take (b.length-(Lib.trimLeftS b u7).length)):=rfl;generalize Lib.trimLeftS b u7=T at*;clear tE fm tC zK F0 tY OL HG;go_wp2_with fail;refine HTR.o.mono ?_;rintro e w4 ⟨rfl,eY⟩;have iW:=bD (gI.o.trans (eY.mono gI.o.size));have q1:IntKind.i64.wrap ((b.length:Int)-(T.length:Int))=(b.length:Int)-(T.length:Int):=aI _ (by omega);have q2:(0:Int)<=(b.length:Int)-(T.length:Int):=by omega
     have q3:(b.length:Int)-(T.length:Int)<=(b.length:Int):=by omega
     have q4:((bs b).size:Int)=(b.length:Int):=by rw[bJ]
     have q5:((bs T).size:Int)=(T.length:Int):=by rw[bJ]
     have q6:((b.length:Int)-(T.length:Int)).toNat=b.length-T.length:=by omega
     clear eY;go_wp2_with fail;go_meet
     case rel=>exact⟨by rw[ab6.o];rfl,by rw[HVF.o,BB.o];rw[oF],iW.o⟩
    |false=>
     rw[rF]at tY;have yc:Hy ((1<=2->Lib.contains s [77,83,73,69]=false)/\(2<=2->Lib.contains s [77,111,122,105,108,108,97]=false)):=by exact⟨fun _=>HN.o.1 (dv _),fun _=>rF⟩
     clear rF HN;go_wp2_with fail;refine tY.o.mono ?_;rintro e w3 ⟨rfl,rfl⟩;go_wp2_with fail;go_roundw
     case rel=>exact⟨2,by omega,by go_num,rfl,rfl,Am.o,Dm.o,yc.o⟩
     case measure=>simp[intOf]
   ·have F0:Hy (BF=(uY,[])):=by rw[Hy,As.o,HN.o.1 (by omega),HN.o.2 (by omega)];rfl
    clear As HN;go_wp2_with fail;go_meet
    case rel=>exact⟨by rw[F0.o];rfl,by rw[F0.o];rfl,HB.o⟩
 case rest=>
  obtain⟨rfl,rfl,CA⟩:=hcut;clear nz HK0 As;go_upto_block 2 with fail
  change Code.wp _ _ _ _ (wc.alloc (.cells #[.string ⟨#[87,105,110,100,111,119,115]⟩,.string ⟨#[87,73,78]⟩,.string ⟨#[77,97,99]⟩,.string ⟨#[77,65,67]⟩,.string ⟨#[88,49,49]⟩,.string ⟨#[85,78,73,88]⟩] 256));have cg:=CA.o.alloc CA.o.size (.cells #[.string ⟨#[87,105,110,100,111,119,115]⟩,.string ⟨#[87,73,78]⟩,.string ⟨#[77,97,99]⟩,.string ⟨#[77,65,67]⟩,.string ⟨#[88,49,49]⟩,.string ⟨#[85,78,73,88]⟩] 256);have Oe:=bL.new wc 256 #[.string ⟨#[87,105,110,100,111,119,115]⟩,.string ⟨#[87,73,78]⟩,.string ⟨#[77,97,99]⟩,.string ⟨#[77,65,67]⟩,.string ⟨#[88,49,49]⟩,.string ⟨#[85,78,73,88]⟩];have HCS:=bD CA.o.size;generalize wc.alloc (.cells #[.string ⟨#[87,105,110,100,111,119,115]⟩,.string ⟨#[87,73,78]⟩,.string ⟨#[77,97,99]⟩,.string ⟨#[77,65,67]⟩,.string ⟨#[88,49,49]⟩,.string ⟨#[85,78,73,88]⟩] 256)=w8 at*;generalize wc.heap.size=Y at*;have nz:=bD cg;have HK0:=bD Oe;clear cg Oe;go_wp2_with fail;go_loopw [7,14,52] (fun v _ i wr=>∃k:Nat,k<=3/\i=.int .i64 k/\v=.string ⟨#[79,84,72,69,82]⟩/\Hy (bL wr Y 256 #[.string ⟨#[87,105,110,100,111,119,115]⟩,.string ⟨#[87,73,78]⟩,.string ⟨#[77,97,99]⟩,.string ⟨#[77,65,67]⟩,.string ⟨#[88,49,49]⟩,.string ⟨#[85,78,73,88]⟩])/\Hy (Below w.heap.size w wr)/\
   Hy ((1<=k->Lib.contains s [87,105,110,100,111,119,115]=false)/\(2<=k->Lib.contains s [77,97,99]=false)/\(3<=k->Lib.contains s [88,49,49]=false)))
   (fun _ _ i wr=>3-(intOf i).toNat)
  case atStart=>exact⟨0,by omega,rfl,rfl,HK0.o,nz.o,⟨fun h=>by omega,fun h=>by omega,fun h=>by omega⟩⟩
  case round=>
   clear HK0 nz CA;obtain⟨k,hk,rfl,rfl,HK,HB,HN⟩:=hrel;rcases(by omega:k=0\/k=1\/k=2\/k=3)with rfl|rfl|rfl|rfl
   ·have Bc:=HK.o.cell 0;have uv:=HK.o.cell 1;simp at Bc uv;have Dm:=bD ((HB.o.alloc HB.o.size (.cells #[.string ⟨#[87,105,110,100,111,119,115]⟩,.string ⟨#[87,73,78]⟩] 256)));have Kc:=bD (bL.new wr 256 #[.string ⟨#[87,105,110,100,111,119,115]⟩,.string ⟨#[87,73,78]⟩]);have Am:=bD (HK.o.alloc (.cells #[.string ⟨#[87,105,110,100,111,119,115]⟩,.string ⟨#[87,73,78]⟩] 256));go_upto_region 13 with(fail)
    change Code.wp _ _ _ _ (wr.alloc (.cells #[.string ⟨#[87,105,110,100,111,119,115]⟩,.string ⟨#[87,73,78]⟩] 256));generalize wr.alloc (.cells #[.string ⟨#[87,105,110,100,111,119,115]⟩,.string ⟨#[87,73,78]⟩] 256)=w2 at*;generalize wr.heap.size=X at*;clear Bc uv HK HB;have d0:=Kc.o.cell 0;have d1:=Kc.o.cell 1;simp at d0 d1;have tY:=bD (OL.o #[87,105,110,100,111,119,115] w2 Dm.o);rw[show(#[87,105,110,100,111,119,115]:Array UInt8).toList=[87,105,110,100,111,119,115]from rfl]at tY;cases rF:Lib.contains s [87,105,110,100,111,119,115]with
    |true=>
     rw[rF]at tY;have OM:Hy (SF=[87,73,78]):=by rw[Hy,P1.o,rF];rfl
     clear rF P1 HN;go_wp2_with fail;refine tY.o.mono ?_;rintro e w3 ⟨rfl,rfl⟩;go_wp2_with fail;go_ret3;exact⟨by rw[OM.o];rfl,Dm.o⟩
    |false=>
     rw[rF]at tY;have yc:Hy ((1<=1->Lib.contains s [87,105,110,100,111,119,115]=false)/\(2<=1->Lib.contains s [77,97,99]=false)/\(3<=1->Lib.contains s [88,49,49]=false)):=⟨fun _=>rF,fun h=>by omega,fun h=>by omega⟩;clear rF HN;go_wp2_with fail;refine tY.o.mono ?_;rintro e w3 ⟨rfl,rfl⟩;go_wp2_with fail;go_roundw
     case rel=>exact⟨1,by omega,by go_num,rfl,Am.o,Dm.o,yc.o⟩
     case measure=>simp[intOf]
   ·have Bc:=HK.o.cell 2;have uv:=HK.o.cell 3;simp at Bc uv;have Dm:=bD ((HB.o.alloc HB.o.size (.cells #[.string ⟨#[77,97,99]⟩,.string ⟨#[77,65,67]⟩] 256)));have Kc:=bD (bL.new wr 256 #[.string ⟨#[77,97,99]⟩,.string ⟨#[77,65,67]⟩]);have Am:=bD (HK.o.alloc (.cells #[.string ⟨#[77,97,99]⟩,.string ⟨#[77,65,67]⟩] 256));go_upto_region 13 with(fail)
    change Code.wp _ _ _ _ (wr.alloc (.cells #[.string ⟨#[77,97,99]⟩,.string ⟨#[77,65,67]⟩] 256));generalize wr.alloc (.cells #[.string ⟨#[77,97,99]⟩,.string ⟨#[77,65,67]⟩] 256)=w2 at*;generalize wr.heap.size=X at*;clear Bc uv HK HB;have d0:=Kc.o.cell 0;have d1:=Kc.o.cell 1;simp at d0 d1;have tY:=bD (OL.o #[77,97,99] w2 Dm.o);rw[show(#[77,97,99]:Array UInt8).toList=[77,97,99]from rfl]at tY;cases rF:Lib.contains s [77,97,99]with
    |true=>
     rw[rF]at tY;have OM:Hy (SF=[77,65,67]):=by rw[Hy,P1.o,HN.o.1 (by omega),rF];rfl
     clear rF P1 HN;go_wp2_with fail;refine tY.o.mono ?_;rintro e w3 ⟨rfl,rfl⟩;go_wp2_with fail;go_ret3;exact⟨by rw[OM.o];rfl,Dm.o⟩
    |false=>
     rw[rF]at tY;have yc:Hy ((1<=2->Lib.contains s [87,105,110,100,111,119,115]=false)/\(2<=2->Lib.contains s [77,97,99]=false)/\(3<=2->Lib.contains s [88,49,49]=false)):=⟨fun _=>HN.o.1 (by omega),fun _=>rF,fun h=>by omega⟩;clear rF HN;go_wp2_with fail;refine tY.o.mono ?_;rintro e w3 ⟨rfl,rfl⟩;go_wp2_with fail;go_roundw
     case rel=>exact⟨2,by omega,by go_num,rfl,Am.o,Dm.o,yc.o⟩
     case measure=>simp[intOf]
   ·have Bc:=HK.o.cell 4;have uv:=HK.o.cell 5;simp at Bc uv;have Dm:=bD ((HB.o.alloc HB.o.size (.cells #[.string ⟨#[88,49,49]⟩,.string ⟨#[85,78,73,88]⟩] 256)));have Kc:=bD (bL.new wr 256 #[.string ⟨#[88,49,49]⟩,.string ⟨#[85,78,73,88]⟩]);have Am:=bD (HK.o.alloc (.cells #[.string ⟨#[88,49,49]⟩,.string ⟨#[85,78,73,88]⟩] 256));go_upto_region 13 with(fail)
    change Code.wp _ _ _ _ (wr.alloc (.cells #[.string ⟨#[88,49,49]⟩,.string ⟨#[85,78,73,88]⟩] 256));generalize wr.alloc (.cells #[.string ⟨#[88,49,49]⟩,.string ⟨#[85,78,73,88]⟩] 256)=w2 at*;generalize wr.heap.size=X at*;clear Bc uv HK HB;have d0:=Kc.o.cell 0;have d1:=Kc.o.cell 1;simp at d0 d1;have tY:=bD (OL.o #[88,49,49] w2 Dm.o);rw[show(#[88,49,49]:Array UInt8).toList=[88,49,49]from rfl]at tY;cases rF:Lib.contains s [88,49,49]with
    |true=>
     rw[rF]at tY;have OM:Hy (SF=[85,78,73,88]):=by rw[Hy,P1.o,HN.o.1 (by omega),HN.o.2.1 (by omega),rF];rfl
     clear rF P1 HN;go_wp2_with fail;refine tY.o.mono ?_;rintro e w3 ⟨rfl,rfl⟩;go_wp2_with fail;go_ret3;exact⟨by rw[OM.o];rfl,Dm.o⟩
    |false=>
     rw[rF]at tY;have yc:Hy ((1<=3->Lib.contains s [87,105,110,100,111,119,115]=false)/\(2<=3->Lib.contains s [77,97,99]=false)/\(3<=3->Lib.contains s [88,49,49]=false)):=⟨fun _=>HN.o.1 (by omega),fun _=>HN.o.2.1 (by omega),fun _=>rF⟩;clear rF HN;go_wp2_with fail;refine tY.o.mono ?_;rintro e w3 ⟨rfl,rfl⟩;go_wp2_with fail;go_roundw
     case rel=>exact⟨3,by omega,by go_num,rfl,Am.o,Dm.o,yc.o⟩
     case measure=>simp[intOf]
   ·have OM:Hy (SF=uY):=by rw[Hy,P1.o,HN.o.1 (by omega),HN.o.2.1 (by omega),HN.o.2.2 (by omega)];rfl
    clear P1 HN;go_wp2_with fail;go_ret3;exact⟨by rw[OM.o];rfl,HB.o⟩
abbrev KV:=Bt->Option Value
def KV.D9(f:KV)(k:Bt)(v:Value):KV:=fun s=>if s=k then some v else f s
def fK(W:World)(b n:Nat)(f:KV):Prop:=
 ∃D:DataW Value,Maps.IsMap D/\W.ownsMap prog 9 mX b n D/\∀s,Maps.has D (.string s)=(f s).isSome/\∀z,D.atKey (.string s) (.held z)=.held ((f s).getD z)
section
variable {W W':World} {b n:Nat} {f:KV}
theorem fK.made(w:World):fK (w.alloc (.map #[] 0)) w.heap.size 0 (fun _=>none):=by
 refine⟨.map [],⟨[],rfl⟩,World.ownsMap_made w _ _ _,fun s=>⟨rfl,fun z=>rfl⟩⟩
theorem fK.same(h:fK W b n f)(hb:W'.heap[b]?=W.heap[b]?):fK W' b n f:=by
 obtain⟨D,hD,⟨es,ck,h1,h2⟩,h3⟩:=h;exact⟨D,hD,⟨es,ck,hb.trans h1,h2⟩,h3⟩
theorem fK.lt(h:fK W b n f):b<W.heap.size:=by
 obtain⟨D,hD,⟨es,ck,h1,h2⟩,h3⟩:=h;rcases Nat.lt_or_ge b W.heap.size with h|h
 ·exact h
 ·rw[Array.getElem?_eq_none h]at h1;cases h1
theorem fK.below(h:fK W b n f)(hb:Below W.heap.size W W'):fK W' b n f:=h.same (hb.block b h.lt)
theorem wp_mapIns{o:Oper}{a:Act}{K:Act->World->Prop}{Q:Exit->Act->World->Prop}(h:fK W b n f)(hn:n<maxLen){t e:TypeId}(ht:prog.underlying t=some (.map 9 e))(m x v:Operand)(dS:o.op=Op.insert t m x v)
 (hm:a.eval m=.map (some b)) (ky:Array UInt8) (hx:a.eval x=.string ⟨ky⟩) (hk:ky.size<=maxLen) (val:Value) (hv:a.eval v=val)
 (hK:∀W',fK W' b (n+1) (f.D9 ky.toList val)->W.grownBy W' (some b)->K (a.put o.dst undef) W'):o.wp prog a W K Q:=by
 obtain⟨D,hD,h1,h3⟩:=h;obtain⟨w',qp,r1,r2⟩:=h1.update rJ ht hn (TL ky hk) (show mX val=some (.held val,[])from rfl);unfold Oper.wp;simp[execOp,dS,hm,hx,hv,qp,Result.andThen];rw[Oper.upon_skip];refine hK _ ⟨D.put (.string ky.toList) (.held val),by obtain⟨l,rfl⟩:=hD;exact⟨_,rfl⟩,r1,fun s=>?_⟩ r2;rw[me hD];refine⟨?_,fun z=>?_⟩
 ·unfold KV.D9;split
  ·rfl
  ·exact(h3 s).1
 ·rw[oW hD];unfold KV.D9;split
  ·rfl
  ·exact(h3 s).2 z
theorem F8{ops:Array Oper}{rest:List Oper}{o:Oper}{a:Act}{Q:Exit->Act->World->Prop}(h:fK W b n f)(hg:o.guard=none)(hn:n<maxLen){t e:TypeId}(ht:prog.underlying t=some (.map 9 e))(m x v:Operand)(dS:o.op=Op.insert t m x v)
 (hm:a.eval m=.map (some b)) (ky:Array UInt8) (hx:a.eval x=.string ⟨ky⟩) (hk:ky.size<=maxLen) (val:Value) (hv:a.eval v=val)
 (hK:∀W',fK W' b (n+1) (f.D9 ky.toList val)->W.grownBy W' (some b)->wpList prog ops Q rest (a.put o.dst undef) W'):wpList prog ops Q (o::rest) a W:=
 wpList_plain hg fun K' hK'=>wp_mapIns h hn ht m x v dS hm ky hx hk val hv fun W' h1 h2=>hK' _ _ (hK W' h1 h2)
theorem fK.look(h:fK W b n f){t e:TypeId}(ht:prog.underlying t=some (.map 9 e)){z:Value}(hz:(zeroValue e).run prog W=.ok z W){s:Bt}(hs:s.length<=maxLen)(c:Bool):
 (Instr.lookup t (.map (some b)) (.string (bs s)) c).run prog W=.ok (if c then .tuple #[(f s).getD z,.bool (f s).isSome]else(f s).getD z) W:=by
 obtain⟨D,hD,h1,h3⟩:=h;have h4:=(h3 s).2 z;have h5:=(h3 s).1;cases c with
 |true=>
  obtain⟨v,ps,qp,hv⟩:=h1.look_ok rJ ht hz rfl (IV hs);rw[h4]at hv;simp only[mX,Option.some.injEq,Prod.mk.injEq,DataW.held.injEq]at hv;rw[qp,h5,hv.1];rfl
 |false=>
  obtain⟨v,ps,qp,hv⟩:=h1.lookup rJ ht hz rfl (IV hs);rw[h4]at hv;simp only[mX,Option.some.injEq,Prod.mk.injEq,DataW.held.injEq]at hv;rw[qp,hv.1];rfl
theorem Ea{ops:Array Oper}{rest:List Oper}{o:Oper}{a:Act}{Q:Exit->Act->World->Prop}(h:fK W b n f)(hg:o.guard=none){t e:TypeId}(ht:prog.underlying t=some (.map 9 e)){z:Value}(hz:(zeroValue e).run prog W=.ok z W)
 (m x:Operand) (dS:o.op=Op.lookup t m x false) (hm:a.eval m=.map (some b)) (s:Bt) (hx:a.eval x=.string (bs s)) (hs:s.length<=maxLen) (val:Value) (jj:(f s).getD z=val)
 (hK:wpList prog ops Q rest (a.put o.dst val) W):wpList prog ops Q (o::rest) a W:=by
 refine wpList_plain hg fun K' hK'=>?_;have qp:=h.look ht hz hs false;simp only[Bool.false_eq_true,if_false,jj]at qp;unfold Oper.wp;simp[execOp,dS,hm,hx,qp,Result.andThen];rw[Oper.upon_value];exact hK' _ _ hK
end
def Eb:Bt:=[98,114,111,119,115,101,114]
def Ec:Bt:=[118,101,114,115,105,111,110]
def nOs:Bt:=[111,115]
def s8(v:cK):Array Value:=#[.string (bs v.e0),.string (bs v.e1),.string (bs v.e2),.string (bs v.e3),.string (bs v.e4),.string (bs v.e5)]
def rj(s key:Bt):Bt:=if key=nOs then sY s else if key=Ec then(ld s).2 else if key=Eb then(ld s).1 else[]
theorem Jz(v:cK)(h2:v.e2.length<=10000)(key:Bt)(hk:key.length<=100000)(E:Nat)(W:World)(hE:bL W E 23 (s8 v))(hg:eK W):
 Calls prog 185 #[.string (bs key),.pointer (some ⟨E,0,none⟩)] W fun e W'=>e=.returned (gL (kW (rj v.e2 key)))/\Below W.heap.size W W':=by
 have c2:=hE.cell 2;simp[s8]at c2;have HA:=bD (L0 v.e2 h2 W hg);have HK:Hy (rj v.e2 key=if key=nOs then sY v.e2 else if key=Ec then(ld v.e2).2 else if key=Eb then(ld v.e2).1 else[]):=rfl;generalize rj v.e2 key=R at*;generalize ld v.e2=B at*;generalize sY v.e2=S at*;have LD:Hy (key.length<=maxLen):=by rw[Hy];unfold maxLen;omega
 obtain⟨b1,b2⟩:=B;simp only at HA HK;have HSO:=bD (fun w=>mK R w);generalize kW R=PV at*;obtain⟨p1,p2⟩:=PV;simp only[gL]at HSO|-;have QU:=@run_makeMap prog;clear hE hg hk;go_enter func185,ntmps185;go_wp2_with fail;refine HA.o.mono ?_;rintro e w2 ⟨rfl,cu⟩;have dm:=bD cu;have hM:=fK.made w2;have TQ:Hy (Below W.heap.size W (w2.alloc (.map #[] 0))):=cu.alloc cu.size _;have uj:Hy (W.heap.size<=w2.heap.size):=cu.size;clear cu;go_upto_region 2 with(fail)
 go_wp2_with (first
  |((with_reducible refine F8 hM rfl (by unfold maxLen;omega) underlying236 _ _ _ rfl rfl _ rfl (by simp[maxLen]) _ rfl ?_);have hM0:=hM;have Cq:=TQ;clear hM TQ;intro w_ hM am7;have TQ:Hy (Below W.heap.size W w_):=Cq.o.trans (bN am7 (by have h1:=uj.o;have h2:=hM0.lt;omega) (fun k hk=>by have hk:=ar hk;have:=uj.o;omega));clear hM0 Cq am7)
  |((with_reducible refine Ea hM rfl underlying236 (z:=.string (bs [])) (by kernel_rfl) _ _ rfl rfl key rfl LD.o (.string (bs R)) ?_ ?_)))
 ·rw[HK.o];unfold KV.D9
  show(if key=nOs then some (Value.string (bs S))else if key=Ec then some (.string (bs b2))else if key=Eb then some (.string (bs b1))else none).getD _=_
  split
  ·rfl
  ·split
   ·rfl
   ·split<;>rfl
 ·refine(HSO.o _).mono ?_;rintro e w3 ⟨rfl,rfl⟩;go_wp2_with fail;go_ret2;exact⟨rfl,TQ.o⟩
theorem JA(v:cK)(h2:v.e3.length<=9999)(key:Bt)(E:Nat)(W:World)(hE:bL W E 23 (s8 v))(hg:eK W):
 Calls prog 190 #[.string (bs key),.pointer (some ⟨E,0,none⟩)] W fun e W'=>e=.returned (gL (oG key (nj v.e3)))/\Below W.heap.size W W':=by
 have c2:=hE.cell 3;simp[s8]at c2;have HA:=bD (FZ v.e3 h2 W hg);have HL:Hy ((nj v.e3).length<=100000):=by
  have h:=rR uX (fT v.e3 59) [];have h3:=za (jk v.e3 59);have h4:=(sW v.e3 59).2;have h5:fT v.e3 59=nh (jk v.e3 59):=rfl;rw[<-h5]at h3;simp only[aD]at h
  show((fT v.e3 59).foldl gl []).length<=_
  omega
 generalize nj v.e3=C at*;have HF:=bD (fun x F w h=>DL C x F key w h HL.o);generalize oG key C=FV at*;obtain⟨p1,p2⟩:=FV;simp only[gL]at HF|-;clear hE hg;go_enter func190,ntmps190;go_wp2_with fail;refine HA.o.mono ?_;rintro e w2 ⟨⟨x,rfl,hx⟩,cu⟩;have dm:=bD cu;have HX:=bD (HF.o x _ w2 hx);clear cu hx;go_wp2_with fail;refine HX.o.mono ?_;rintro e w3 ⟨rfl,fm⟩;have gI:=bD (dm.o.trans (fm.mono dm.o.size));clear fm;go_wp2_with fail;go_ret2;exact⟨rfl,gI.o⟩
theorem JB(v:cK)(h2:v.e5.length<=9999)(key:Bt)(E:Nat)(W:World)(hE:bL W E 23 (s8 v))(hg:eK W):
 Calls prog 193 #[.string (bs key),.pointer (some ⟨E,0,none⟩)] W fun e W'=>e=.returned (gL (oG key (sX v.e5)))/\Below W.heap.size W W':=by
 have c2:=hE.cell 5;simp[s8]at c2;have HA:=bD (LX v.e5 h2 W hg);have HL:Hy ((sX v.e5).length<=100000):=by
  have h:=rR (step:=iK) (fun l p=>by rw[iK,af];exact dv _) (fT v.e5 38) [];have h3:=za (jk v.e5 38);have h4:=(sW v.e5 38).2;have h5:fT v.e5 38=nh (jk v.e5 38):=rfl;rw[<-h5]at h3;simp only[aD]at h
  show((fT v.e5 38).foldl iK []).length<=_
  omega
 generalize sX v.e5=C at*;have HF:=bD (fun x F w h=>DL C x F key w h HL.o);generalize oG key C=FV at*;obtain⟨p1,p2⟩:=FV;simp only[gL]at HF|-;clear hE hg;go_enter func193,ntmps193;go_wp2_with fail;refine HA.o.mono ?_;rintro e w2 ⟨⟨x,rfl,hx⟩,cu⟩;have dm:=bD cu;have HX:=bD (HF.o x _ w2 hx);clear cu hx;go_wp2_with fail;refine HX.o.mono ?_;rintro e w3 ⟨rfl,fm⟩;have gI:=bD (dm.o.trans (fm.mono dm.o.size));clear fm;go_wp2_with fail;go_ret2;exact⟨rfl,gI.o⟩
def BL(s key:Bt):Bt × Bool:=if(oa s).contains (jJ key)then([116,114,117,101],true)else([102,97,108,115,101],true)
theorem JC(v:cK)(h2:v.e4.length<=9999)(key:Bt)(hk:key.length<=100000)(E:Nat)(W:World)(hE:bL W E 23 (s8 v))(hg:eK W):
 Calls prog 195 #[.string (bs key),.pointer (some ⟨E,0,none⟩)] W fun e W'=>e=.returned (gL (BL v.e4 key))/\Below W.heap.size W W':=by
 have c2:=hE.cell 4;simp[s8]at c2;have HA:=bD (Cp v.e4 h2 W hg);have HL:Hy ((oa v.e4).length<=100000):=by
  have h:=rR zc (fT v.e4 44) [];have h3:=za (jk v.e4 44);have h4:=(sW v.e4 44).2;have h5:fT v.e4 44=nh (jk v.e4 44):=rfl;rw[<-h5]at h3;simp only[aD]at h
  show((fT v.e4 44).foldl kZ []).length<=_
  omega
 have HV:Hy (BL v.e4 key=if(oa v.e4).contains (jJ key)then([116,114,117,101],true)else([102,97,108,115,101],true)):=rfl;have HLO:=bD (fun w=>mD (bs key) w (by rw[bJ];omega));rw[eB]at HLO;generalize BL v.e4 key=R at*;generalize oa v.e4=C at*;generalize jJ key=lk at*;have HF:=bD (fun x F w h=>qd C x F lk w HL.o h);clear hE hg hk;go_enter func195,ntmps195;go_wp2_with fail;refine HA.o.mono ?_;rintro e w2 ⟨⟨x,rfl,hx⟩,cu⟩;have dm:=bD cu;have HX:=bD hx;clear cu hx;go_wp2_with fail;refine(HLO.o _).mono ?_;rintro e w3 ⟨rfl,fm⟩;have gI:=bD (dm.o.trans (fm.mono dm.o.size));have iL:=bD (HF.o x _ w3 (HX.o.below fm));clear fm;cases hc:C.contains lk with
 |true=>
  rw[hc]at iL;have eA:Hy (R=([116,114,117,101],true)):=by rw[Hy,HV.o,hc];rfl
  clear hc HV;go_wp2_with fail;refine iL.o.mono ?_;rintro e w4 ⟨rfl,rfl⟩;go_wp2_with fail;go_ret2;exact⟨by rw[eA.o];rfl,gI.o⟩
 |false=>
  rw[hc]at iL;have eA:Hy (R=([102,97,108,115,101],true)):=by rw[Hy,HV.o,hc];rfl
  clear hc HV;go_wp2_with fail;refine iL.o.mono ?_;rintro e w4 ⟨rfl,rfl⟩;go_wp2_with fail;go_ret2;exact⟨by rw[eA.o];rfl,gI.o⟩
section
variable {P:Program} {ops:Array Oper} {Q:Exit->Act->World->Prop} {md:Region.Mode}
def zg:List Bool->Nat
 |[]=>0
 |b::l=>(if b then 0 else 1)+zg l
theorem Hl:∀(l:List Bool) (i:Nat),l[i]?=some false->zg (l.set i true)+1=zg l
 |[],i,h=>by simp at h
 |b::l,0,h=>by
  simp only[List.getElem?_cons_zero,Option.some.injEq]at h;subst h;simp[zg];omega
 |b::l,i+1,h=>by
  have:=Hl l i (by simpa using h);simp only[List.set_cons_succ,zg];omega
theorem Hm:∀(l:List Bool) (i:Nat),l[i]?=some false->0<zg l
 |[],i,h=>by simp at h
 |b::l,0,h=>by
  simp only[List.getElem?_cons_zero,Option.some.injEq]at h;subst h;simp[zg];omega
 |b::l,i+1,h=>by
  have:=Hm l i (by simpa using h);simp only[zg];omega
theorem ve{listed:Array Bool}{i:Nat}(h:i∈Region.ready md ops listed):listed.toList[i]?=some false:=by
 have h0:=(mem_ready.1 h).1;rcases Nat.lt_or_ge i listed.size with h1|h1
 ·have e:listed.getD i true=listed[i]:=by simp[h1]
  rw[e]at h0;rw[Array.getElem?_toList,Array.getElem?_eq_getElem h1,h0]
 ·simp[Array.getElem?_eq_none h1]at h0
theorem Ed{S:World->Prop}(Inv:Array Bool->Act->World->Prop)(hS:∀listed a w,Inv listed a w->S w)(mJ:∀listed a w i,Inv listed a w->i∈Region.ready md ops listed->wpOp P ops Q i (fun a' w'=>Inv (listed.setIfInBounds i true) a' w') a w)
 (UY:∀listed a w,Inv listed a w->Region.ready md ops listed=[]->Q .normal a w):
 ∀(fuel:Nat) (listed:Array Bool) (a:Act) (w:World),Inv listed a w->zg listed.toList<=fuel->wpAnyH P md ops Q S fuel listed a w
 |0,listed,a,w,h,hl=>by
  have hr:Region.ready md ops listed=[]:=by
   cases hr:Region.ready md ops listed with
   |nil=>rfl
   |cons i l=>
    have:=Hm _ _ (ve (md:=md) (ops:=ops) (listed:=listed) (i:=i) (by rw[hr];simp));omega
  exact⟨hr,UY _ _ _ h hr⟩
 |fuel+1,listed,a,w,h,hl=>by
  refine⟨fun hr=>UY _ _ _ h hr,fun i hi=>?_⟩;refine wpOp_mono (fun a' w' h'=>⟨hS _ _ _ h',?_⟩) (mJ listed a w i h hi);refine Ed Inv hS mJ UY fuel _ _ _ h' ?_;have:=Hl _ _ (ve hi);rw[Array.toList_setIfInBounds];omega
theorem gU{listed:Array Bool}{i:Nat}{o:Oper}(ho:ops[i]?=some o)(h:i∈Region.ready md ops listed){e}(he:e∈o.after)(hb:Region.binds md e=true):listed.getD e.on false=true:=by
 obtain⟨_,o2,EY,hd⟩:=mem_ready.1 h;rw[ho]at EY;obtain rfl:=ar EY;exact hd e he hb
def Qk(ops:Array Oper):Bool:=(List.range ops.size).all fun i=>match ops[i]? with
 |some o=>o.after.all fun e=>decide (e.on<i)
 |none=>true
theorem UZ(h:Qk ops=true){i:Nat}{o:Oper}(ho:ops[i]?=some o){e}(he:e∈o.after):e.on<i:=by
 unfold Qk at h;rw[List.all_eq_true]at h;have hi:i<ops.size:=(Array.getElem?_eq_some_iff.1 ho).1;have h1:=h i (List.mem_range.2 hi);rw[ho]at h1;simp only[Array.all_eq_true_iff_forall_mem]at h1;exact of_decide_eq_true (h1 e he)
theorem Ee(hed:∀(i:Nat) (o:Oper),ops[i]?=some o->∀e∈o.after,e.on<i){listed:Array Bool}(lQ:listed.size=ops.size)(hr:Region.ready md ops listed=[]):∀n i,i<n->i<ops.size->listed.getD i false=true
 |0,i,h,_=>aX h (by omega)
 |n+1,i,h,hi=>by
  rcases Classical.em (listed.getD i false=true)with h1|h1
  ·exact h1
  ·exfalso;have hil:i<listed.size:=by omega
   have h0:listed.getD i true=false:=by
    simp only[Array.getD,hil,dite_true]at h1|-
    simpa using h1
   have hoi:ops[i]?=some ops[i]:=by simp[hi]
   have:i∈Region.ready md ops listed:=by
    refine mem_ready.2 ⟨h0,ops[i],hoi,fun e he hb=>?_⟩;have bW:=hed i ops[i] hoi e he;exact Ee hed lQ hr n e.on (by omega) (by omega)
   rw[hr]at this;cases this
end
end Go.Proofs.YtejafaaihodehaaGreatDoor
