/- Part 37. -/
import Derived.Test.YtejafaaihodehaaGreatDoorZ16
import Derived.Test.YtejafaaihodehaaGreatDoorZ32
import Derived.Laws.BytesArg
import Derived.Lib.SlTrimSet
import Derived.Shelf.Strings.SlTrimAscii
set_option linter.all false
set_option maxRecDepth 100000
set_option maxHeartbeats 8000000
namespace Go.Proofs.YtejafaaihodehaaGreatDoor
open Go Go.RowKit Tryz
theorem LF:kJ prog 135 5 1 1:=by
 obtain⟨i0,hi,zR,rq,vF⟩:=qF (show(prog.info? 5).map (fun i=>(i.zero,i.size,i.bytes))=some (some (.int .u8 0),1,1) by kernel_rfl);exact⟨i0,_,underlying135,hi,zR,rq,vF,rfl,by omega⟩
def qw(W:World)(base:Nat)(v:Value)(o:Bt):Prop:=b8 W base 5 1 (fun _=>False) v (o.map .u8)
theorem Uu{w:World}{F:Nat->Prop}:∀{l:Bt} {xs:List Value},fW w F 1 (l.map .u8) xs->xs=l.map fun b=>Value.int .u8 (b.toNat:Int)
 |[],xs,h=>by
  rw[List.map_nil,jt]at h;exact h
 |s::l,xs,h=>by
  rw[List.map_cons]at h;obtain⟨a,b,rfl,h1,h2,h3⟩:=gF.1 h;rw[XV]at h2;rw[Uu h3,h2];rfl
section
variable {w W:World} {base:Nat} {v:Value} {o:Bt}
theorem qw.nil(w:World)(base:Nat):qw w base (.slice none 0 0) []:=b8.nil _ _ _ _ _
theorem qw.conv{A:Option Addr}{n c:Nat}(h:qw W base (.slice A n c) o):(convert 135 9 (.slice A n c)).run prog W=.ok (.string (bs o)) W:=by
 have hg:GR W (fun _=>True) (.row 1 (o.map .u8)) [.slice A n c]:=b8.gr h (fun _ h=>h.elim) (fun _ _=>trivial);obtain⟨A',c',xs,h1,k2,h3,h4,h5,h6⟩:=jR.1 hg;simp only[List.cons.injEq,and_true]at h1;injection h1 with e1 e2 e3
 subst e1 e3;rw[ah]at e2;subst e2;have hx:=Uu h6;cases A with
 |none=>
  have ho:o=[]:=by
   cases o with
   |nil=>rfl
   |cons b l=>
    obtain⟨_,_,h,_⟩:=h5 (by rw[hx];simp);cases h
  subst ho;exact run_convert_bytes_nil (P:=prog) (w:=W) 135 5 underlying135 underlying5 0 c 9 underlying9
 |some ad=>
  refine run_convert_bytes_back (P:=prog) W 135 9 5 ad c o underlying135 underlying5 underlying9 (fun j hj=>?_);obtain⟨b,q,ha,_,hc⟩:=h5 (by rw[hx];intro e;have:=congrArg List.length e;simp at this;rw[this]at hj;simp at hj);injection ha with ha
  subst ha;have Ff:(⟨b,q,none⟩:Addr).add j=⟨b,q+j,none⟩:=by unfold Addr.add;split<;>simp_all
  rw[Ff];exact hc j _ (by rw[hx];simp[hj])
theorem AH{N:Nat}(ho:qw W base v o)(hb:base<=W.heap.size)(hN:N=o.length)(fH:o.length<=99999)(s:UInt8):
 tm (W.alloc (.cells #[.int .u8 (s.toNat:Int)] 5)) base 5 1 1 (fun _=>False) v (o.map .u8) (some ⟨W.heap.size,0,none⟩) 1 [.u8 s] [.int .u8 (s.toNat:Int)] (N+1):=by
 subst hN;have key:=tm.sE (bytes:=1) (size:=1) (x:=.u8 s) (b8.below ho (cU _ (.cells #[.int .u8 (s.toNat:Int)] 5))) (bL.new W 5 [.int .u8 (s.toNat:Int)].toArray) (XV.2 rfl) rfl (by rw[ah];omega) (by omega) (by rw[size_alloc];omega);rw[ah]at key;exact key
theorem qw.push{N c':Nat}{A':Option Addr}{w':World}{s:UInt8}(h:b8 w' base 5 1 (fun _=>False) (.slice A' N c') (o.map .u8++[.u8 s])):qw w' base (.slice A' N c') (o++[s]):=by
 unfold qw;rw[aK];exact h
end
theorem Rw(w:World)(d:UInt8):(convert 135 9 (.slice (some ⟨w.heap.size,0,none⟩) 1 1)).run prog (w.alloc (.cells #[.int .u8 d.toNat] 5))=.ok (.string (bs [d])) (w.alloc (.cells #[.int .u8 d.toNat] 5)):=
 run_convert_bytes_back (P:=prog) (w.alloc (.cells #[.int .u8 d.toNat] 5)) 135 9 5 ⟨w.heap.size,0,none⟩ 1 [d] underlying135 underlying5 underlying9 (fun j hj=>by
  obtain rfl:j=0:=by simp at hj;omega
  exact(bL.new w 5 #[.int .u8 d.toNat]).cell 0)
def Uv:Bt:=[48,49,50,51,52,53,54,55,56,57,97,98,99,100,101,102]
def qb(c:UInt8):Int:=Lib.indexByte Uv (nD c)
theorem G3(c:UInt8)(w:World):Calls prog 245 #[.int .u8 c.toNat] w fun e w'=>e=.returned (.int .i64 (qb c))/\Below w.heap.size w w':=by
 have cg:Below w.heap.size w (w.alloc (.cells #[.int .u8 c.toNat] 5)):=cU _ _;have SH:=Rw w c;have HL:=bD (fun W=>mD (bs [c]) W (by rw[bJ];simp));rw[eB]at HL;have HIX:=bD (fun W=>strings_IndexByte ⟨#[48,49,50,51,52,53,54,55,56,57,97,98,99,100,101,102]⟩ ((nD c).toNat:Int) W);have Cv:(((nD c).toNat:Int)).toNat.toUInt8=nD c:=by simp
 rw[Cv]at HIX;have HH:Hy (qb c=Lib.indexByte Uv (nD c)):=rfl;have HE:jJ [c]=[nD c]:=rfl;rw[HE]at HL;have HB:=bD cg;clear cg Cv HE;have h0:(0:Int)<((bs [nD c]).size:Int):=by rw[bJ];simp
 have ZF:(bs [nD c])[0]'(by rw[bJ];simp)=nD c:=by
  rw[dP _ 0 (by rw[bJ];simp)];simp
 go_enter func245,ntmps245;go_wp2_with fail;refine(HL.o _).mono ?_;rintro e w2 ⟨rfl,cu⟩;have dm:=bD (HB.o.trans (cu.mono HB.o.size));clear cu;go_wp2_with fail;refine(HIX.o w2).mono ?_;rintro e w3 ⟨rfl,tE⟩;have tE:=tE.symm;subst tE;go_wp2_with fail;go_ret;exact⟨by rw[HH.o];rfl,dm.o⟩
def oG(nm:Bt)(l:List bY):Bt × Bool:=
 match l.find? (fun p=>p.name==nm)with
 |some p=>(p.value,true)
 |none=>([],false)
theorem LG(x y nm:ByteArray)(pb:Nat)(w:World)(h:w.cell? ⟨pb,0,none⟩=some (.string nm)):
 Calls prog 217 #[.agg #[.string x,.string y],.pointer (some ⟨pb,0,none⟩)] w fun e w'=>e=.returned (.bool (x.toList==nm.toList))/\Below w.heap.size w w':=by
 have bW:pb<w.heap.size:=aq w _ h;go_enter func217,ntmps217;go_wp2_with fail;go_ret;exact⟨rfl,cU _ _⟩
theorem Cl(l:List bY)(v:Value)(F:Nat->Prop)(nm:ByteArray)(pb:Nat)(w:World)(h:w.cell? ⟨pb,0,none⟩=some (.string nm))(hv:GR w F (.row 2 (l.map bY.gv)) [v])(hl:l.length<=100000):
 Calls prog 138 #[v,.func (.func 217) #[] #[.pointer (some ⟨pb,0,none⟩)]] w
  fun e w'=>(∃z:Int,e=.returned (.int .i64 z)/\(z=-1/\l.find? (fun x=>x.name==L nm)=none\/∃(k:Nat) (hk:k<l.length),z=k/\l.find? (fun x=>x.name==L nm)=some (l[k]'hk)))/\Below w.heap.size w w':=by
 obtain⟨A,c,rfl,zQ,mz,dS⟩:=dV hv;have HV:=bD hv;have ub:=bD dS;clear dS hv mz;go_enter func138,ntmps138;go_wp2_with fail;go_loopw [5,8] (fun _ i wr=>∃k:Nat,k<=l.length/\i=.int .i64 k/\Below w.heap.size w wr/\Hy ((l.take k).find? (fun x=>x.name==L nm)=none))
  (fun _ i wr=>l.length-(intOf i).toNat)
 case atStart=>exact⟨0,ax _,rfl,aF _ _,by rw[List.take_zero];rfl⟩
 case round=>
  obtain⟨k,hk,rfl,hb,HA⟩:=hrel;by_cases bW:k<l.length
  ·obtain⟨b,o,rfl,_,dS⟩:=ub.o (by rintro rfl;simp at bW);obtain⟨c0,c1⟩:=dS k bW;have e0:=hb.cell (aq w _ c0) |>.trans c0;have e1:=hb.cell (aq w _ c1) |>.trans c1;have e2:=hb.cell (aq w _ h) |>.trans h;clear c0 c1 dS;go_wp2_with fail;refine(LG _ _ nm pb wr e2).mono ?_;rintro e w' ⟨rfl,cu⟩;go_wp2_with fail
   ·have ht:((bs l[k].name).toList==nm.toList)=true:=by assumption
    go_ret;refine⟨⟨k,rfl,.inr ⟨k,bW,rfl,?_⟩⟩,hb.trans (cu.mono hb.size)⟩;rw[bQ,cw]at ht;have e:l=l.take k++l[k]::l.drop (k+1):=by rw[<-aE bW,bt]
    have e3:l.find? (fun x=>x.name==L nm)=(l.take k++l[k]::l.drop (k+1)).find? (fun x=>x.name==L nm):=congrArg _ e;rw[e3,List.find?_append,HA.o,List.find?_cons,ht];rfl
   ·have ht:((bs l[k].name).toList==nm.toList)=false:=by assumption
    go_roundw
    case rel=>
     refine⟨k+1,by omega,by go_num,hb.trans (cu.mono hb.size),?_⟩;have e:=HA.o;rw[bQ,cw]at ht
     show(l.take (k+1)).find? (fun x=>x.name==L nm)=none
     rw[aC bW,List.find?_append,e];simp[List.find?_cons,ht]
    case measure=>simp[intOf];omega
  ·go_wp2_with fail;go_ret;refine⟨⟨-1,rfl,.inl ⟨rfl,?_⟩⟩,hb⟩;have e:=HA.o
   rwa [aO (by omega)]at e
theorem DL(l:List bY)(v:Value)(F:Nat->Prop)(key:Bt)(w:World)(hv:GR w F (.row 2 (l.map bY.gv)) [v])(hl:l.length<=100000):
 Calls prog 191 #[v,.string (bs key)] w fun e w'=>e=.returned (gL (oG key l))/\Below w.heap.size w w':=by
 have cg:Below w.heap.size w (w.alloc (.cells #[.string (bs key)] 9)):=cU _ _;have hc:=(bL.new w 9 #[.string (bs key)]).cell 0;have hv0:=hv.below cg;obtain⟨A,c,rfl,zQ,mz,dS⟩:=dV hv0;have HI:=bD (Cl l _ F (bs key) w.heap.size (w.alloc (.cells #[.string (bs key)] 9)) hc hv0 hl);rw[eB]at HI;have HB:=bD cg;have ub:=bD dS;have HF:Hy (oG key l=match l.find? (fun p=>p.name==key)with
  |some p=>(p.value,true)
  |none=>([],false)):=rfl
 clear cg hc hv hv0 dS;generalize oG key l=FV at*;unfold maxLen at mz;go_enter func191,ntmps191;go_wp2_with fail;refine HI.o.mono ?_;rintro e w2 ⟨⟨z,rfl,hz⟩,cu⟩;have dm:=bD (HB.o.trans (cu.mono HB.o.size));rcases hz with⟨rfl,hf⟩|⟨k,hk,rfl,hf⟩
 ·have HV:Hy (FV=([],false)):=by rw[Hy,HF.o,hf]
  clear hf cu HF HI;go_wp2_with fail;go_ret2;exact⟨by rw[HV.o];rfl,dm.o⟩
 ·have HV:Hy (FV=((l[k]'hk).value,true)):=by rw[Hy,HF.o,hf]
  obtain⟨b,o,rfl,_,dS⟩:=ub.o (by rintro rfl;simp at hk);obtain⟨c0,c1⟩:=dS k hk;have e1:=cu.cell (aq _ _ c1) |>.trans c1;have tW:(0:Int)<=(k:Int):=by omega
  have nE:(k:Int)<(l.length:Int):=by omega
  clear hf cu HF HI c0 c1 dS ub;generalize(l[k]'hk).value=X at*;go_wp2_with fail;go_ret2;exact⟨by rw[HV.o];rfl,dm.o⟩
def Cm(j:Nat):Bool:=(decide (j<32)&&!decide (j=9))||decide (j=127)
def yW(n k:Nat):Array Value:=((List.range n).map fun j=>Value.bool (decide (j<k)&&Cm j)).toArray
theorem Xn(n k j:Nat)(hj:j<n):(yW n k)[j]?=some (.bool (decide (j<k)&&Cm j)):=by
 simp[yW,hj]
theorem Rx(n:Nat):yW n 0=Array.replicate n (.bool false):=by
 apply Array.ext
 ·simp[yW]
 ·intro i h1 h2;simp[yW]
theorem Uw(n k:Nat)(hk:k<n):(yW n k).setIfInBounds k (.bool (Cm k))=yW n (k+1):=by
 apply Array.ext
 ·simp[yW]
 ·intro i h1 h2;have hi:i<n:=by simpa[yW]using h2
  have e1:(yW n (k+1))[i]=.bool (decide (i<k+1)&&Cm i):=by simp[yW]
  rw[e1,Array.getElem_setIfInBounds (by simpa[yW]using h1)];by_cases h:k=i
  ·subst h;rw[ae rfl];simp
  ·rw[aa h];have:decide (i<k+1)=decide (i<k):=by
    rw[decide_eq_decide];omega
   rw[this];simp[yW]
def kX(k:Nat):Array Value:=yW 256 k
theorem Ux(k j:Nat)(hj:j<256):(kX k)[j]?=some (.bool (decide (j<k)&&Cm j)):=Xn 256 k j hj
theorem Uy:kX 0=Array.replicate 256 (.bool false):=Rx 256
theorem Xo(k:Nat)(hk:k<256):(kX k).setIfInBounds k (.bool (Cm k))=kX (k+1):=Uw 256 k hk
theorem Ry(B:Nat)(x:UInt8)(v:Bool)(w:World)(hc:w.cell? ⟨B,x.toNat,none⟩=some (.bool v)):
 Calls prog 244 #[.pointer (some ⟨B,0,none⟩),.int .u8 x.toNat] w fun e w'=>e=.returned (.bool v)/\w=w':=by
 have az9:(x.toNat:Int)<256:=by have:=UInt8.toNat_lt x;omega
 go_enter func244,ntmps244;go_wp2_with fail;go_ret;exact⟨rfl,rfl⟩
theorem DM(w:World):Calls prog 243 #[] w fun e w'=>e=.returned (.pointer (some ⟨w.heap.size,0,none⟩))/\bL w' w.heap.size 279 (kX 256)/\Below w.heap.size w w':=by
 have hz:zeroCells279=kX 0:=by rw[Uy];kernel_rfl
 have hB:=bL.new w 279 (kX 0);have cg:Below w.heap.size w (w.alloc (.cells (kX 0) 279)):=cU _ _;rw[<-hz]at hB cg;have HZ:=bD hz;have HB:=bD hB;have HL:=bD cg;clear hB cg hz;go_enter func243,ntmps243;go_wp2_with fail;go_loopw [2,3] (fun _ i wr=>∃k:Nat,k<=256/\i=.int .i64 k/\Hy (bL wr w.heap.size 279 (kX k))/\Hy (Below w.heap.size w wr))
  (fun _ i wr=>256-(intOf i).toNat)
 case atStart=>
  refine⟨0,ax _,rfl,?_,HL.o⟩;have:=HB.o;rw[HZ.o]at this|-;exact this
 case round=>
  clear HZ HB HL;obtain⟨k,hk,rfl,HB,HL⟩:=hrel;by_cases bW:k<256
  ·have h0:(0:Int)<=(k:Int):=by omega
   have h1:(k:Int)<256:=by omega
   have hf:=HB.o.frozen k;have Z7:Hy (bL (wr.setCell ⟨w.heap.size,k,none⟩ (.bool (Cm k))) w.heap.size 279 (kX (k+1))):=by
    have:=HB.o.cL k (.bool (Cm k))
    rwa [Xo k bW]at this
   have VT:Hy (Below w.heap.size w (wr.setCell ⟨w.heap.size,k,none⟩ (.bool (Cm k)))):=HL.o.setCell (p:=⟨w.heap.size,k,none⟩) (dv _) _;have Bc:=HB.o.cell k;rw[Ux k k bW]at Bc;have HV:Hy (Cm k=((decide (k<32)&&!decide (k=9))||decide (k=127))):=rfl;generalize Cm k=V at*;by_cases c9:k=9
   ·subst c9;obtain rfl:V=false:=HV.o;clear HV HB HL;go_wp2_with fail;go_roundw
    case rel=>exact⟨9+1,by omega,by go_num,Z7.o,VT.o⟩
    case measure=>first|(simp[intOf];done)|(simp[intOf];omega)
   by_cases Xp:k=127
   ·subst Xp;obtain rfl:V=true:=HV.o;clear HV HB HL;go_wp2_with fail;go_roundw
    case rel=>exact⟨127+1,by omega,by go_num,Z7.o,VT.o⟩
    case measure=>first|(simp[intOf];done)|(simp[intOf];omega)
   have n9:¬(k:Int)=9:=by omega
   have n127:¬(k:Int)=127:=by omega
   have aE2:((k:Int)==127)=false:=by rw[ai];exact n127
   by_cases c1:k<32
   ·obtain rfl:V=true:=by rw[HV.o];simp[c1,c9]
    have d1:(k:Int)<32:=by omega
    clear HV HB HL c9 Xp;go_wp2_with fail;go_roundw
    case rel=>exact⟨k+1,by omega,by go_num,Z7.o,VT.o⟩
    case measure=>first|(simp[intOf];done)|(simp[intOf];omega)
   ·obtain rfl:V=false:=by rw[HV.o];simp[c1,Xp]
    have d1:¬(k:Int)<32:=by omega
    clear HV HB HL c9 Xp;go_wp2_with fail;go_roundw
    case rel=>exact⟨k+1,by omega,by go_num,Z7.o,VT.o⟩
    case measure=>first|(simp[intOf];done)|(simp[intOf];omega)
  ·have ln:k=256:=by omega
   subst ln;go_wp2_with fail;go_ret;exact⟨rfl,HB.o,HL.o⟩
theorem FQ(s:ByteArray)(B:Nat)(f:UInt8->Bool)(w:World)(hs:s.size<=1000000)(hf:∀c:UInt8,w.cell? ⟨B,c.toNat,none⟩=some (.bool (f c))):
 Calls prog 242 #[.string s,.pointer (some ⟨B,0,none⟩),.func (.func 244) #[] #[]] w fun e w'=>e=.returned (.bool ((L s).any f))/\w=w':=by
 have HF:=bD hf;have mC:=cm s;have nF:=bD mC;clear hf mC;go_enter func242,ntmps242;go_wp2_with fail;go_loopw [7,10] (fun _ i wr=>∃k:Nat,k<=s.size/\i=.int .i64 k/\Hy (((L s).take k).any f=false)/\Hy (wr=w))
  (fun _ i wr=>s.size-(intOf i).toNat)
 case atStart=>exact⟨0,ax _,rfl,by rw[List.take_zero];rfl,rfl⟩
 case round=>
  obtain⟨k,hk,rfl,HA,HW⟩:=hrel;obtain rfl:=HW.o;clear HW;by_cases bW:k<s.size
  ·have h0:(0:Int)<=(k:Int):=by omega
   have h1:(k:Int)<(s.size:Int):=by omega
   have HC:=bD (Ry B (s[k]'bW) (f (s[k]'bW)) wr (HF.o (s[k]'bW)));have tH:k<(L s).length:=by have:=nF.o;omega
   have HE:Hy (L s=(L s).take k++(s[k]'bW)::(L s).drop (k+1)):=by
    rw[Hy,dP s k bW,<-aE tH,bt]
   have HT:Hy ((L s).take (k+1)=(L s).take k++[(s[k]'bW)]):=by rw[Hy,aC tH,dP s k bW]
   cases hfk:f (s[k]'bW)with
   |true=>
    rw[hfk]at HC;have HR:Hy ((L s).any f=true):=by
     rw[Hy,HE.o,bf,List.any_cons,hfk];simp
    clear HA HE HT hfk;go_wp2_with fail;refine HC.o.mono ?_;rintro e w2 ⟨rfl,rfl⟩;go_wp2_with fail;go_ret;exact⟨by rw[HR.o];rfl,rfl⟩
   |false=>
    rw[hfk]at HC;have HR:Hy (((L s).take (k+1)).any f=false):=by
     rw[Hy,HT.o,bf,HA.o,List.any_cons,hfk];rfl
    clear HA HE HT hfk;go_wp2_with fail;refine HC.o.mono ?_;rintro e w2 ⟨rfl,rfl⟩;go_wp2_with fail;go_roundw
    case rel=>exact⟨k+1,by omega,by go_num,HR.o,(by first|exact trivial|exact rfl)⟩
    case measure=>simp[intOf];omega
  ·have ln:k=s.size:=by omega
   subst ln;have HR:Hy ((L s).any f=false):=by
    have:=HA.o
    rwa [nF.o,aM]at this
   clear HA;go_wp2_with fail;go_ret;exact⟨by rw[HR.o];rfl,rfl⟩
def oH:Nat->Bt->Bt->Option Bt
 |0,_,_=>none
 |n+1,o,[]=>some o
 |n+1,o,c::l=>if c=34 then none else if c=92 then(match l with
  |[]=>none
  |d::r=>oH n (o++[d]) r)else oH n (o++[c]) l
def Rz(c:UInt8):Bool:=Cm c.toNat
def DN:Option Bt->Bt × Int
 |none=>([],11)
 |some o=>(o,0)
def jE(s:Bt):Bt × Int:=
 if s.length<2\/s.head?≠some 34\/s.getLast?≠some 34\/s.any Rz=true then([],11)
 else DN (oH s.length [] ((s.take (s.length-1)).drop 1))
theorem aa5{n:Nat}{o l:Bt}{c:UInt8}(h:c=34):oH (n+1) o (c::l)=none:=by
 show(if c=34 then none else _)=_
 rw[ae h]
theorem aa6{n:Nat}{o:Bt}{c:UInt8}(h:¬c=34)(h2:c=92):oH (n+1) o [c]=none:=by
 show(if c=34 then none else if c=92 then none else _)=_
 rw[aa h,ae h2]
theorem aa7{n:Nat}{o l:Bt}{c d:UInt8}(h:¬c=34)(h2:c=92):oH (n+1) o (c::d::l)=oH n (o++[d]) l:=by
 show(if c=34 then none else if c=92 then oH n (o++[d]) l else _)=_
 rw[aa h,ae h2]
theorem aa8{n:Nat}{o l:Bt}{c:UInt8}(h:¬c=34)(h2:¬c=92):oH (n+1) o (c::l)=oH n (o++[c]) l:=by
 show(if c=34 then none else if c=92 then _ else oH n (o++[c]) l)=_
 rw[aa h,aa h2]
theorem aa9(s:ByteArray)(h:0<s.size):(L s).head?=some (s[0]'h):=by
 rw[dP s 0 h,List.head?_eq_getElem?,aB (by rw[<-cm];exact h)]
theorem ab0(s:ByteArray)(h:s.size-1<s.size):(L s).getLast?=some (s[s.size-1]'h):=by
 rw[dP s _ h,List.getLast?_eq_getElem?,aB (by rw[<-cm];omega)];rfl
theorem Uz{w:World}{B:Nat}(h:bL w B 279 (kX 256))(c:UInt8):w.cell? ⟨B,c.toNat,none⟩=some (.bool (Rz c)):=by
 have hc:=UInt8.toNat_lt c;rw[h.cell,Ux 256 c.toNat hc];simp[Rz,hc]
theorem G4{c:UInt8}{n:Nat}(hn:n<256):((c.toNat:Int)=(n:Int))↔c=UInt8.ofNat n:=by
 rw[<-UInt8.toNat_inj,UInt8.toNat_ofNat_of_lt' hn];omega
theorem FR(s:ByteArray)(w:World)(hs:s.size<=50000):Calls prog 221 #[.string s] w fun e w'=>
 e=.returned (.tuple #[.string (bs (jE (L s)).1),.int .i64 (jE (L s)).2])/\Below w.heap.size w w':=by
 have mC:=cm s;have HU:Hy (jE (L s)=if(L s).length<2\/(L s).head?≠some 34\/(L s).getLast?≠some 34\/(L s).any Rz=true then([],11)
  else DN (oH (L s).length [] (((L s).take ((L s).length-1)).drop 1))):=rfl
 generalize jE (L s)=U at*;have nF:=bD mC;clear mC;by_cases h2:s.size<2
 ·have h2':(s.size:Int)<2:=by omega
  have HV:Hy (U=([],11)):=by rw[Hy,HU.o,ae (.inl (by rw[<-nF.o];exact h2))]
  clear HU;go_enter func221,ntmps221;go_wp2_with fail;go_ret2;exact⟨by rw[HV.o];rfl,aF _ _⟩
 ·have h2':¬(s.size:Int)<2:=by omega
  have zR:(0:Int)<(s.size:Int):=by omega
  have rq:(0:Int)<=(s.size:Int)-1:=by omega
  have vF:(s.size:Int)-1<(s.size:Int):=by omega
  have PQ:=ab0 s (by omega);have YW:=aa9 s (by omega);have ZH:=bD PQ;have HHE:=bD YW;clear PQ YW;go_enter func221,ntmps221;go_wp2_with fail;rotate_left
  ·have q:¬((s[s.size-1]'(by omega)).toNat:Int)=34:=by assumption
   have HV:Hy (U=([],11)):=by
    have hq:(L s).getLast?≠some 34:=by
     rw[ZH.o];intro e;injection e with e
     rw[e]at q;exact q rfl
    rw[Hy,HU.o,ae (.inr (.inr (.inl hq)))]
   go_ret2;exact⟨by rw[HV.o];rfl,aF _ _⟩
  ·have q:¬((s[0]'(by omega)).toNat:Int)=34:=by assumption
   have HV:Hy (U=([],11)):=by
    have hq:(L s).head?≠some 34:=by
     rw[HHE.o];intro e;injection e with e
     rw[e]at q;exact q rfl
    rw[Hy,HU.o,ae (.inr (.inl hq))]
   go_ret2;exact⟨by rw[HV.o];rfl,aF _ _⟩
  ·have q0:((s[0]'(by omega)).toNat:Int)=34:=by assumption
   have q1:((s[s.size-1]'(by omega)).toNat:Int)=34:=by assumption
   have HQ0:Hy ((L s).head?=some 34):=by rw[Hy,HHE.o,(G4 (n:=34) (by omega)).1 q0];rfl
   have HQ1:Hy ((L s).getLast?=some 34):=by rw[Hy,ZH.o,(G4 (n:=34) (by omega)).1 q1];rfl
   refine(DM _).mono ?_;rintro e w2 ⟨rfl,hB,hb⟩;have HB:=bD hb;have HS:=bD (FQ s w.heap.size Rz w2 (by omega) (Uz hB));clear hB hb;cases RE:(L s).any Rz with
   |true=>
    have HV:Hy (U=([],11)):=by rw[Hy,HU.o,ae (.inr (.inr (.inr RE)))]
    rw[RE]at HS;clear RE HU ZH HHE HQ0 HQ1;go_wp2_with fail;refine HS.o.mono ?_;rintro e w3 ⟨rfl,rfl⟩;go_wp2_with fail;go_ret2;exact⟨by rw[HV.o];rfl,HB.o⟩
   |false=>
    have HV:Hy (U=DN (oH s.size [] (((L s).take (s.size-1)).drop 1))):=by
     rw[Hy,HU.o,nF.o,aa];rintro (h|h|h|h)
     ·rw[<-nF.o]at h;omega
     ·exact h HQ0.o
     ·exact h HQ1.o
     ·rw[RE]at h;cases h
    rw[RE]at HS;clear RE HU ZH HHE HQ0 HQ1;go_wp2_with fail;refine HS.o.mono ?_;rintro e w3 ⟨rfl,rfl⟩;go_wp2_with fail;have YX:=bD (qw.nil w2 w.heap.size);go_loopw [5,6,37,39] (fun v i _ _ wr=>∃(k:Nat) (o:Bt) (A:Option Addr) (c n N:Nat),1<=k/\k<=s.size-1/\i=.int .i64 k/\v=.slice A N c/\N=o.length/\N<=k/\Hy (qw wr w.heap.size (.slice A N c) o)/\s.size<=n+k/\
     Hy (oH s.size [] (((L s).take (s.size-1)).drop 1)=oH n o (((L s).take (s.size-1)).drop k))/\Hy (Below w.heap.size w wr))
     (fun _ i _ _ wr=>s.size-(intOf i).toNat)
    case atStart=>exact⟨1,[],none,0,s.size,0,dv _,by omega,rfl,rfl,rfl,ax _,YX.o,by omega,rfl,HB.o⟩
    case round=>
     clear YX HB HS q0 q1;obtain⟨k,o,A,c,n,N,nE,fA,rfl,rfl,Xq,hN,HO,hn,HR,HB⟩:=hrel;have BD:=bD Xq;clear Xq;by_cases bW:k<s.size-1
     ·obtain⟨n,rfl⟩:∃m,n=m+1:=⟨n-1,by omega⟩;have nG:k<s.size:=by omega
      have i0:(0:Int)<=(k:Int):=by omega
      have i1:(k:Int)<(s.size:Int):=by omega
      have i2:(k:Int)<(s.size:Int)-1:=by omega
      have HC:Hy (((L s).take (s.size-1)).drop k=(s[k]'nG)::((L s).take (s.size-1)).drop (k+1)):=by
       have hl:k<((L s).take (s.size-1)).length:=by rw[ay,<-nF.o];omega
       rw[Hy,aE hl,List.getElem_take,dP s k nG]
      have HX:=UInt8.toNat_lt (s[k]'nG);by_cases VU:(s[k]'nG)=34
      ·have d34:((s[k]'nG).toNat:Int)=34:=by rw[VU];rfl
       have eA:Hy (U=([],11)):=by rw[Hy,HV.o,HR.o,HC.o,aa5 VU];rfl
       clear HC HR HX VU;go_wp2_with fail;go_ret2;exact⟨by rw[eA.o];rfl,HB.o⟩
      ·have d34:¬((s[k]'nG).toNat:Int)=34:=fun e=>VU ((G4 (n:=34) (by omega)).1 e);by_cases YY:(s[k]'nG)=92
       ·have d92:((s[k]'nG).toNat:Int)=92:=by rw[YY];rfl
        by_cases Cw:k+1=s.size-1
        ·have j1:(k:Int)+1=(s.size:Int)-1:=by omega
         have eA:Hy (U=([],11)):=by
          have hd:((L s).take (s.size-1)).drop (k+1)=[]:=by
           rw[List.drop_eq_nil_iff,ay,<-nF.o];omega
          rw[Hy,HV.o,HR.o,HC.o,hd,aa6 VU YY];rfl
         clear HC HR HX VU YY;go_wp2_with fail;go_ret2;exact⟨by rw[eA.o];rfl,HB.o⟩
        ·have xh:k+1<s.size:=by omega
         have j1:¬(k:Int)+1=(s.size:Int)-1:=by omega
         have j2:(k:Int)+1<(s.size:Int):=by omega
         have j3:(0:Int)<=(k:Int)+1:=by omega
         have gN:Hy (oH s.size [] (((L s).take (s.size-1)).drop 1)=oH n (o++[s[k+1]'xh]) (((L s).take (s.size-1)).drop (k+2))):=by
          have hl:k+1<((L s).take (s.size-1)).length:=by rw[ay,<-nF.o];omega
          rw[Hy,HR.o,HC.o,aE hl,List.getElem_take,aa7 VU YY,dP s (k+1) xh]
         have HA:=bD (AH HO.o HB.o.size BD.o (by rw[<-BD.o];omega) (s[k+1]'xh));have SX:Hy (Below w.heap.size w (wr.alloc (.cells #[.int .u8 ((s[k+1]'xh).toNat:Int)] 5))):=HB.o.alloc HB.o.size _;clear HC HR HX VU YY;go_wp2_with (at_builtin;go_loud (refine HA.o.plain rfl _ _ _ rfl LF rfl rfl ?_);intro A6 c6 w6 bZ cO fG;have xq:=bD (qw.push bZ);have xW:=bD cO;clear bZ cO fG);go_roundw
         case rel=>exact⟨k+2,o++[s[k+1]'xh],A6,c6,n,N+1,by omega,by omega,by go_num,rfl,by rw[af,BD.o];rfl,by omega,xq.o,by omega,gN.o,SX.o.trans (bN xW.o SX.o.size (fun q hq=>(b8.lt HO.o q hq).1))⟩
         case measure=>simp[intOf];omega
       ·have d92:¬((s[k]'nG).toNat:Int)=92:=fun e=>YY ((G4 (n:=92) (by omega)).1 e);have gN:Hy (oH s.size [] (((L s).take (s.size-1)).drop 1)=oH n (o++[s[k]'nG]) (((L s).take (s.size-1)).drop (k+1))):=by
         rw[Hy,HR.o,HC.o,aa8 VU YY]
        have HA:=bD (AH HO.o HB.o.size BD.o (by rw[<-BD.o];omega) (s[k]'nG));have SX:Hy (Below w.heap.size w (wr.alloc (.cells #[.int .u8 ((s[k]'nG).toNat:Int)] 5))):=HB.o.alloc HB.o.size _;clear HC HR HX VU YY;go_wp2_with (at_builtin;go_loud (refine HA.o.plain rfl _ _ _ rfl LF rfl rfl ?_);intro A6 c6 w6 bZ cO fG;have xq:=bD (qw.push bZ);have xW:=bD cO;clear bZ cO fG);go_roundw
        case rel=>exact⟨k+1,o++[s[k]'nG],A6,c6,n,N+1,by omega,by omega,by go_num,rfl,by rw[af,BD.o];rfl,by omega,xq.o,by omega,gN.o,SX.o.trans (bN xW.o SX.o.size (fun q hq=>(b8.lt HO.o q hq).1))⟩
        case measure=>simp[intOf];omega
     ·have ln:k=s.size-1:=by omega
      have i2:¬(k:Int)<(s.size:Int)-1:=by omega
      have eA:Hy (U=(o,0)):=by
       have hd:((L s).take (s.size-1)).drop k=[]:=by
        rw[List.drop_eq_nil_iff,ay,<-nF.o];omega
       obtain⟨n,rfl⟩:∃m,n=m+1:=⟨n-1,by omega⟩;rw[Hy,HV.o,HR.o,hd];rfl
      have SH:=qw.conv HO.o
      clear HR;go_wp2_with fail;go_ret2;exact⟨by rw[eA.o];rfl,HB.o⟩
theorem jX(p:UInt8->Bool)(s:Bt):(s.dropWhile p).length<=s.length:=by
 have e:=congrArg List.length (List.takeWhile_append_dropWhile (p:=p) (l:=s));rw[af]at e;omega
theorem FU(s qc:ByteArray)(w:World)(hs:s.size<=9223372036854775807)(tC:qc.size<4294967281)(CS:∀(j:Nat) b,qc.data.toList[j]?=some b->b.toNat<128):
 Calls prog 100 #[.string s,.string qc] w fun e w'=>e=.returned (.string ⟨(Lib.trimS s.data.toList qc.data.toList).toArray⟩)/\Below w.heap.size w w':=
 Any.strings_Trim_laid lays160 (by kernel_rfl) s qc w hs tC CS
theorem nd(s qc:ByteArray)(w:World)(tC:qc.size<4294967281)(CS:∀(j:Nat) b,qc.data.toList[j]?=some b->b.toNat<128):
 Calls prog 201 #[.string s,.string qc] w fun e w'=>e=.returned (.string ⟨(Lib.trimLeftS s.data.toList qc.data.toList).toArray⟩)/\Below w.heap.size w w':=
 Any.strings_TrimLeft_laid lays161 (by kernel_rfl) s qc w tC CS
def fu(s:Bt):Bt:=Lib.trimS s [32,9]
theorem rN(s:Bt):(fu s).length<=s.length:=by
 unfold fu Lib.trimS Lib.trimLeftS Lib.trimRightS;refine au (jX _ _) ?_;rw[bx];refine au (jX _ _) ?_;rw[bx];exact dv _
theorem sR(s:Bt)(hs:s.length<=1000000)(w:World):Calls prog 220 #[.string (bs s)] w fun e w'=>e=.returned (.string (bs (fu s)))/\Below w.heap.size w w':=by
 have HT:=bD (FU (bs s) ⟨#[32,9]⟩ w (by rw[bJ];omega) (by decide) (ascii_of_all (by decide)));have HV:Hy ((⟨(Lib.trimS (bs s).data.toList [32,9]).toArray⟩:ByteArray)=bs (fu s)):=by
  show(⟨(Lib.trimS (L (bs s)) [32,9]).toArray⟩:ByteArray)=_
  rw[eB];rfl
 go_enter func220,ntmps220;go_wp2_with fail;refine HT.o.mono ?_;rintro e w2 ⟨rfl,hb⟩;have HB:=bD hb;clear hb;go_wp2_with fail;go_ret;exact⟨by rw[<-HV.o];rfl,HB.o⟩
def RG(a b:UInt8):UInt8:=UInt8.ofNat ((qb a*16+qb b).toNat)
def iR:Nat->Bt->Bt
 |0,_=>[]
 |_+1,[]=>[]
 |n+1,c::l=>if c=43 then 32::iR n l
  else if c=37/\2<=l.length/\0<=qb (l.getD 0 0)/\0<=qb (l.getD 1 0)then RG (l.getD 0 0) (l.getD 1 0)::iR n (l.drop 2)
  else c::iR n l
def mv(s:Bt):Bt:=iR (s.length+1) s
theorem sS:∀(n:Nat) (s:Bt),(iR n s).length<=s.length
 |0,_=>ax _
 |_+1,[]=>ax _
 |n+1,c::l=>by
  rw[iR];split
  ·have:=sS n l;simp only[ak];omega
  ·split
   ·have:=sS n (l.drop 2);rw[aj]at this;simp only[ak];omega
   ·have:=sS n l;simp only[ak];omega
theorem sT(c:UInt8):-1<=qb c/\qb c<16:=by
 unfold qb;exact⟨Lib.indexByte_ge _ _,yu Uv (nD c)⟩
theorem UA{a b:UInt8}(ha:0<=qb a)(hb:0<=qb b):((RG a b).toNat:Int)=qb a*16+qb b:=by
 have h1:=(sT a).2;have h2:=(sT b).2;unfold RG;rw[UInt8.toNat_ofNat_of_lt' (by show _<256;omega)];omega
theorem LH{n:Nat}{c:UInt8}{l:Bt}(h:c=43):iR (n+1) (c::l)=32::iR n l:=by rw[iR,ae h]
theorem OB{n:Nat}{c:UInt8}{l:Bt}(h:¬c=43)(h2:c=37/\2<=l.length/\0<=qb (l.getD 0 0)/\0<=qb (l.getD 1 0)):iR (n+1) (c::l)=RG (l.getD 0 0) (l.getD 1 0)::iR n (l.drop 2):=by rw[iR,aa h,ae h2]
theorem xL{n:Nat}{c:UInt8}{l:Bt}(h:¬c=43)(h2:¬(c=37/\2<=l.length/\0<=qb (l.getD 0 0)/\0<=qb (l.getD 1 0))):iR (n+1) (c::l)=c::iR n l:=by rw[iR,aa h,aa h2]
theorem yX(s:ByteArray)(w:World)(hs:s.size<=50000):Calls prog 223 #[.string s] w fun e w'=>
 e=.returned (.string (bs (mv (L s))))/\Below w.heap.size w w':=by
 have mC:=cm s;have HU:Hy (mv (L s)=iR (s.size+1) (L s)):=by rw[mC];rfl
 generalize mv (L s)=U at*;have nF:=bD mC;have YX:=bD (qw.nil w w.heap.size);clear mC;go_enter func223,ntmps223;go_wp2_with fail;go_loopw [3,4,5,15,18] (fun v i _ _ _ wr=>∃(k:Nat) (o:Bt) (A:Option Addr) (c n N:Nat),k<=s.size/\i=.int .i64 k/\v=.slice A N c/\N=o.length/\N<=k/\Hy (qw wr w.heap.size (.slice A N c) o)/\s.size<n+k/\
  Hy (U=o++iR n ((L s).drop k))/\Hy (Below w.heap.size w wr))
  (fun _ i _ _ _ wr=>s.size-(intOf i).toNat)
 case atStart=>exact⟨0,[],none,0,s.size+1,0,ax _,rfl,rfl,rfl,ax _,YX.o,by omega,by rw[bm];exact HU.o,aF _ _⟩
 case round=>
  clear YX;obtain⟨k,o,A,c,n,N,hk,rfl,rfl,Xq,hN,HO,hn,HR,HB⟩:=hrel;have BD:=bD Xq;clear Xq;by_cases bW:k<s.size
  ·obtain⟨n,rfl⟩:∃m,n=m+1:=⟨n-1,by omega⟩;have i0:(0:Int)<=(k:Int):=by omega
   have i1:(k:Int)<(s.size:Int):=by omega
   have HC:Hy ((L s).drop k=(s[k]'bW)::(L s).drop (k+1)):=by
    have hl:k<(L s).length:=by rw[<-nF.o];exact bW
    rw[Hy,aE hl,dP s k bW]
   have fH:((L s).drop (k+1)).length=s.size-(k+1):=by rw[aj,<-nF.o]
   have B8:=bD fH;clear fH;by_cases UB:(s[k]'bW)=43
   ·have d43:((s[k]'bW).toNat:Int)=43:=by rw[UB];rfl
    have gN:Hy (U=(o++[32])++iR n ((L s).drop (k+1))):=by
     rw[Hy,HR.o,HC.o,LH UB,aN];rfl
    have HA:Hy (tm (wr.alloc (.cells #[.int .u8 32] 5)) w.heap.size 5 1 1 (fun _=>False) (.slice A N c) (o.map .u8) (some ⟨wr.heap.size,0,none⟩) 1 [.u8 32] [.int .u8 32] (N+1)):=
     AH HO.o HB.o.size BD.o (by rw[<-BD.o];omega) 32
    have SX:Hy (Below w.heap.size w (wr.alloc (.cells #[.int .u8 32] 5))):=HB.o.alloc HB.o.size _;clear HC UB;go_wp2_with (at_builtin;go_loud (refine HA.o.plain rfl _ _ _ rfl LF rfl rfl ?_);intro A6 c6 w6 bZ cO fG;have xq:=bD (qw.push bZ);have xW:=bD cO;clear bZ cO fG);go_roundw
    case rel=>exact⟨k+1,_,A6,c6,n,N+1,by omega,by go_num,rfl,by rw[af,BD.o];rfl,by omega,xq.o,by omega,gN.o,SX.o.trans (bN xW.o SX.o.size (fun q hq=>(b8.lt HO.o q hq).1))⟩
    case measure=>simp[intOf];omega
   ·have d43:¬((s[k]'bW).toNat:Int)=43:=fun e=>UB ((G4 (n:=43) (by omega)).1 e);by_cases Xr:(s[k]'bW)=37
    ·have d37:((s[k]'bW).toNat:Int)=37:=by rw[Xr];rfl
     have HA:Hy (∀W,Below wr.heap.size wr W->tm (W.alloc (.cells #[.int .u8 37] 5)) w.heap.size 5 1 1 (fun _=>False) (.slice A N c) (o.map .u8) (some ⟨W.heap.size,0,none⟩) 1 [.u8 37] [.int .u8 37] (N+1)):=
      fun W hb=>AH (b8.below HO.o hb) (au HB.o.size hb.size) BD.o (by rw[<-BD.o];omega) 37
     have nz:Hy (Below wr.heap.size wr wr):=aF _ _;by_cases fA:k+2<s.size
     ·have j0:(0:Int)<=(k:Int)+1:=by omega
      have j1:(k:Int)+1<(s.size:Int):=by omega
      have j2:(k:Int)+2<(s.size:Int):=by omega
      have j3:(0:Int)<=(k:Int)+2:=by omega
      have nE:k+1<s.size:=by omega
      have HE1:Hy (((L s).drop (k+1)).getD 0 0=s[k+1]'nE):=by
       rw[Hy,List.getD_eq_getElem?_getD,List.getElem?_drop,dP s (k+1) nE,aB (show k+1+0<(L s).length by rw[<-nF.o];exact nE)];rfl
      have Cn:Hy (((L s).drop (k+1)).getD 1 0=s[k+2]'fA):=by
       rw[Hy,List.getD_eq_getElem?_getD,List.getElem?_drop,dP s (k+2) fA,aB (by rw[<-nF.o];omega)];rfl
      have HH1:=bD (fun W=>G3 (s[k+1]'nE) W);have HH2:=bD (fun W=>G3 (s[k+2]'fA) W);have dG:=sT (s[k+1]'nE);have cu:=sT (s[k+2]'fA);have BB:=bD (fun h1 h2=>UA (a:=s[k+1]'nE) (b:=s[k+2]'fA) h1 h2);have yp:Hy (¬(0<=qb (s[k+1]'nE)/\0<=qb (s[k+2]'fA))->U=(o++[37])++iR n ((L s).drop (k+1))):=by
       intro hh;rw[HR.o,HC.o,xL UB (fun h=>hh (by rw[<-HE1.o,<-Cn.o];exact h.2.2)),aN,Xr];rfl
      have CT:Hy (0<=qb (s[k+1]'nE)->0<=qb (s[k+2]'fA)->U=(o++[RG (s[k+1]'nE) (s[k+2]'fA)])++iR n ((L s).drop (k+3))):=by
       intro h1 h2;rw[HR.o,HC.o,OB UB ⟨Xr,by rw[B8.o];omega,by rw[HE1.o];exact h1,by rw[Cn.o];exact h2⟩,HE1.o,Cn.o,List.drop_drop,aN];rfl
      generalize qb (s[k+1]'nE)=H1 at*;generalize qb (s[k+2]'fA)=H2 at*;generalize RG (s[k+1]'nE) (s[k+2]'fA)=HX at*;clear HC UB Xr HE1 Cn HR;by_cases h1:0<=H1
      ·by_cases h2:0<=H2
       ·have gN:=bD (CT.o h1 h2);have hv:=BB.o h1 h2;have HHX:Hy (∀W,Below wr.heap.size wr W->tm (W.alloc (.cells #[.int .u8 (H1*16+H2)] 5)) w.heap.size 5 1 1 (fun _=>False) (.slice A N c) (o.map .u8) (some ⟨W.heap.size,0,none⟩) 1 [.u8 HX] [.int .u8 (H1*16+H2)] (N+1)):=by
         intro W hb;rw[<-hv];exact AH (b8.below HO.o hb) (au HB.o.size hb.size) BD.o (by rw[<-BD.o];omega) HX
        have jz:IntKind.i64.wrap (H1*16)=H1*16:=aI _ (by omega);have oM:IntKind.i64.wrap (H1*16+H2)=H1*16+H2:=aI _ (by omega);have tE:IntKind.u8.wrap (H1*16+H2)=H1*16+H2:=by rw[IntKind.wrap_u8];omega
        have HA:=HHX;clear HHX yp CT BB hv;go_wp2_with fail;refine(HH1.o _).mono ?_;rintro e w2 ⟨rfl,LI⟩;have dm:=bD LI;clear LI;go_wp2_with fail;refine(HH2.o _).mono ?_;rintro e w3 ⟨rfl,UC⟩;have gI:=bD (dm.o.trans (UC.mono dm.o.size));clear UC;go_upto_region 9 with(fail)
        have jw1:IntKind.i64.wrap ((k:Int)+1)=(k:Int)+1:=aI _ (by omega);have jw2:IntKind.i64.wrap ((k:Int)+2)=(k:Int)+2:=aI _ (by omega);have jt1:((k:Int)+1).toNat=k+1:=by omega
        have jt2:((k:Int)+2).toNat=k+2:=by omega
        refine aL (S:=(fun _=>True)) (by kernel_rfl) ?_;change wpAnyH _ _ _ _ _ _ _ _ (World.drew _);refine dB 0 trivial ?_;refine dB 1 trivial ?_;refine dB 2 trivial ?_;refine dB 3 trivial ?_;refine dB 6 trivial ?_;refine dB 7 trivial ?_;refine dB 8 trivial ?_;refine dB 9 trivial ?_;refine fr 4 (fun K_ bP=>?_);go_simp;refine(HH1.o _).mono ?_;rintro e w4 ⟨rfl,ak9⟩;have iW:Hy (Below wr.heap.size wr w4):=(gI.o.drew).trans (ak9.mono gI.o.size);clear ak9;refine bP.out _ _ trivial fun _=>?_;clear bP K_;refine dB 5 trivial ?_;refine fr 10 (fun K_ bP=>?_);go_simp;refine(HH2.o _).mono ?_;rintro e w5 ⟨rfl,al0⟩;have kf:Hy (Below wr.heap.size wr w5):=iW.o.trans (al0.mono iW.o.size);clear al0;refine bP.out _ _ trivial fun _=>?_;clear bP K_;refine dB 11 trivial ?_;refine dB 12 trivial ?_;refine dB 13 trivial ?_;refine aJ (by kernel_rfl) ?_ _;go_wp2_with (at_builtin;go_loud (refine(HA.o w5 kf.o).plain rfl _ _ _ rfl LF rfl rfl ?_);intro A6 c6 w6 bZ cO fG;have xq:=bD (qw.push bZ);have xW:=bD cO;clear bZ cO fG);go_roundw
        case rel=>exact⟨k+3,_,A6,c6,n,N+1,by omega,by go_num,rfl,by rw[af,BD.o];rfl,by omega,xq.o,by omega,gN.o,((HB.o.trans (kf.o.mono HB.o.size)).alloc (by have h1:=HB.o.size;have h2:=kf.o.size;omega) _).trans (bN xW.o (by have h1:=HB.o.size;have h2:=kf.o.size;rw[size_alloc];omega) (fun q hq=>(b8.lt HO.o q hq).1))⟩
        case measure=>simp[intOf];omega
       ·have gN:=bD (yp.o (fun h=>h2 h.2));clear yp CT BB;go_wp2_with fail;refine(HH1.o _).mono ?_;rintro e w2 ⟨rfl,LI⟩;have dm:=bD LI;clear LI;go_wp2_with fail;refine(HH2.o _).mono ?_;rintro e w3 ⟨rfl,UC⟩;have gI:=bD (dm.o.trans (UC.mono dm.o.size));clear UC;go_wp2_with (at_builtin;go_loud (refine(HA.o w3 gI.o).plain rfl _ _ _ rfl LF rfl rfl ?_);intro A6 c6 w6 bZ cO fG;have xq:=bD (qw.push bZ);have xW:=bD cO;clear bZ cO fG);go_roundw
        case rel=>exact⟨k+1,_,A6,c6,n,N+1,by omega,by go_num,rfl,by rw[af,BD.o];rfl,by omega,xq.o,by omega,gN.o,((HB.o.trans (gI.o.mono HB.o.size)).alloc (by have h1:=HB.o.size;have h2:=gI.o.size;omega) _).trans (bN xW.o (by have h1:=HB.o.size;have h2:=gI.o.size;rw[size_alloc];omega) (fun q hq=>(b8.lt HO.o q hq).1))⟩
        case measure=>simp[intOf];omega
      ·have gN:=bD (yp.o (fun h=>h1 h.1));clear yp CT BB;go_wp2_with fail;refine(HH1.o _).mono ?_;rintro e w2 ⟨rfl,LI⟩;have dm:=bD LI;clear LI;go_wp2_with (at_builtin;go_loud (refine(HA.o w2 dm.o).plain rfl _ _ _ rfl LF rfl rfl ?_);intro A6 c6 w6 bZ cO fG;have xq:=bD (qw.push bZ);have xW:=bD cO;clear bZ cO fG);go_roundw
       case rel=>exact⟨k+1,_,A6,c6,n,N+1,by omega,by go_num,rfl,by rw[af,BD.o];rfl,by omega,xq.o,by omega,gN.o,((HB.o.trans (dm.o.mono HB.o.size)).alloc (by have h1:=HB.o.size;have h2:=dm.o.size;omega) _).trans (bN xW.o (by have h1:=HB.o.size;have h2:=dm.o.size;rw[size_alloc];omega) (fun q hq=>(b8.lt HO.o q hq).1))⟩
       case measure=>simp[intOf];omega
     ·have j2:¬(k:Int)+2<(s.size:Int):=by omega
      have gN:Hy (U=(o++[37])++iR n ((L s).drop (k+1))):=by
       rw[Hy,HR.o,HC.o,xL UB (fun h=>by have:=h.2.1;rw[B8.o]at this;omega),aN,Xr];rfl
      clear HC UB Xr;go_wp2_with (at_builtin;go_loud (refine(HA.o wr nz.o).plain rfl _ _ _ rfl LF rfl rfl ?_);intro A6 c6 w6 bZ cO fG;have xq:=bD (qw.push bZ);have xW:=bD cO;clear bZ cO fG);go_roundw
      case rel=>exact⟨k+1,_,A6,c6,n,N+1,by omega,by go_num,rfl,by rw[af,BD.o];rfl,by omega,xq.o,by omega,gN.o,((HB.o.trans (nz.o.mono HB.o.size)).alloc (by have h1:=HB.o.size;have h2:=nz.o.size;omega) _).trans (bN xW.o (by have h1:=HB.o.size;have h2:=nz.o.size;rw[size_alloc];omega) (fun q hq=>(b8.lt HO.o q hq).1))⟩
      case measure=>simp[intOf];omega
    ·have d37:¬((s[k]'bW).toNat:Int)=37:=fun e=>Xr ((G4 (n:=37) (by omega)).1 e);have gN:Hy (U=(o++[s[k]'bW])++iR n ((L s).drop (k+1))):=by
      rw[Hy,HR.o,HC.o,xL UB (fun h=>Xr h.1),aN];rfl
     have HA:=bD (AH HO.o HB.o.size BD.o (by rw[<-BD.o];omega) (s[k]'bW));have SX:Hy (Below w.heap.size w (wr.alloc (.cells #[.int .u8 ((s[k]'bW).toNat:Int)] 5))):=HB.o.alloc HB.o.size _;clear HC UB Xr;go_wp2_with (at_builtin;go_loud (refine HA.o.plain rfl _ _ _ rfl LF rfl rfl ?_);intro A6 c6 w6 bZ cO fG;have xq:=bD (qw.push bZ);have xW:=bD cO;clear bZ cO fG);go_roundw
     case rel=>exact⟨k+1,_,A6,c6,n,N+1,by omega,by go_num,rfl,by rw[af,BD.o];rfl,by omega,xq.o,by omega,gN.o,SX.o.trans (bN xW.o SX.o.size (fun q hq=>(b8.lt HO.o q hq).1))⟩
     case measure=>simp[intOf];omega
  ·have ln:k=s.size:=by omega
   subst ln;have eA:Hy (U=o):=by
    obtain⟨n,rfl⟩:∃m,n=m+1:=⟨n-1,by omega⟩;have hd:(L s).drop s.size=[]:=by rw[nF.o,bu]
    rw[Hy,HR.o,hd,iR,List.append_nil]
   have SH:=qw.conv HO.o
   clear HR;go_wp2_with fail;go_ret;exact⟨by rw[eA.o];rfl,HB.o⟩
end Go.Proofs.YtejafaaihodehaaGreatDoor
