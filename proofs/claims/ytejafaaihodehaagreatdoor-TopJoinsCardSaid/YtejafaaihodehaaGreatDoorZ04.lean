/- Part 4. -/
import Derived.Test.YtejafaaihodehaaGreatDoorZ03
import Derived.Test.YtejafaaihodehaaGreatDoorShelf
import Derived.Lib.ItoaNum
import Derived.Lib.IndexMore
import Derived.Lib.IndexAny
import Derived.Lib.Strings
import Derived.Lib.Bytealg
import Derived.Laws.IdiomStrings
import Derived.Shelf.Strconv.Itoa3
import Derived.Lib.AppendIntMem
set_option linter.all false
set_option maxRecDepth 100000
set_option maxHeartbeats 8000000
namespace Go.Proofs.YtejafaaihodehaaGreatDoor
open Go Go.RowKit Tryz
def pd(c:UInt8):Bool:=!((decide (97<=c.toNat)&&decide (c.toNat<=122))||(decide (48<=c.toNat)&&decide (c.toNat<=57))||c.toNat==45||c.toNat==46)
def qP(c:UInt8):Bool:=decide (c.toNat<=32)||decide (126<c.toNat)||decide (0<=Lib.indexByte [34,35,60,62,92,94,123,124,125,96] c)
def CR(s:Bt):Bool:=decide (1<=s.length)&&decide (s.length<=100)&&!s.any pd
def pk:Bt:=[104,116,116,112,58,47,47]
structure eG where
 mA:Bool
 eX:Bt
 port:Int
 path:Bt
 asks:Bool
 cI:Bt
def fh:eG:=⟨false,[],0,[],false,[]⟩
def eG.val(u:eG):Value:=.agg #[.bool u.mA,.string (bs u.eX),.int .i64 u.port,.string (bs u.path),.bool u.asks,.string (bs u.cI)]
def eG.kB(u:eG):Prop:=u.eX.length<=100000/\u.path.length<=100000/\u.cI.length<=100000/\-1<=u.port/\u.port<=1099511627776
def Ko(n:Int):Bt:=if n=0 then[]else 58::Lib.decDigits n.toNat
def lL(u:eG):Bt:=(if u.mA then pk++u.eX++Ko u.port else[])++u.path++(if u.asks then 63::u.cI else[])
def okF(u:eG):Bool:=
 !u.path.any qP&&(!u.cI.any qP&&(!decide (0<=Lib.indexByte u.path 63)&&((u.asks||u.cI.isEmpty)&&(decide (0<=u.port)&&(decide (u.port<=65535)&&decide ((lL u).length<=500))))))
def gp(u:eG):Bool:=
 okF u&&(if u.mA then CR u.eX&&Lib.hasPrefix u.path [47]
  else u.eX.isEmpty&&(decide (u.port=0)&&(!Lib.hasPrefix u.path [47,47]&&!decide (0<=Lib.indexByte (Lib.cut u.path [47]).1 58))))
def wG(s:Bt)(u:eG):eG:={u with path:=(Lib.cut s [63]).1,cI:=(Lib.cut s [63]).2.1,asks:=(Lib.cut s [63]).2.2}
def nD(c:UInt8):UInt8:=if 65<=c.toNat/\c.toNat<=90 then c+32 else c
def jJ(s:Bt):Bt:=s.map nD
def dc(c:UInt8):Bt->Nat
 |[]=>0
 |x::l=>if dc c l=0 then(if x=c then 1 else 0)else dc c l+1
def Il(c:UInt8):Bool:=decide (48<=c.toNat)&&decide (c.toNat<=57)
def di:Bt->Nat->Bool->Option (Nat × Bool)
 |[],n,b=>some (n,b)
 |c::l,n,b=>if Il c then(if n*10+(c.toNat-48)<=1099511627776 then di l (n*10+(c.toNat-48)) b else di l 0 true)else none
def vG:Option (Nat × Bool)->Nat × Int
 |none=>(0,10)
 |some (n,b)=>if b then(0,2)else(n,0)
def cW(s:Bt):Nat × Int:=
 if s=[]then(0,10)else vG (di s 0 false)
def pN(s:Bt)(u:eG):eG × Bool:=
 if dc 58 s=0 then({u with mA:=true,eX:=jJ s},true)
 else({u with mA:=true,eX:=(jJ s).take (dc 58 s-1),port:=(cW (s.drop (dc 58 s))).1},
  decide ((cW (s.drop (dc 58 s))).2=0)&&(decide (s.length-dc 58 s<=5)&&decide (0<(cW (s.drop (dc 58 s))).1)))
def oS(s:Bt):Bt:=if s=[]\/s.head?=some 63 then 47::s else s
def ue(s:Bt)(z:eG × Bool):eG × Int:=if z.2=true/\gp (wG s z.1)=true then(wG s z.1,0)else(fh,20)
def xj(s:Bt)(z:Int):eG × Int:=
 if 500<s.length then(fh,2)
 else if 7<=s.length/\jJ (s.take 7)=pk then
  ue (oS ((s.drop 7).drop (if z<0 then(s.drop 7).length else z.toNat))) (pN ((s.drop 7).take (if z<0 then(s.drop 7).length else z.toNat)) fh)
 else ue s (fh,true)
def fN(s:Bt):eG × Int:=xj s (Lib.indexAny (s.drop 7) [47,63])
def uf(u:eG):Bt × Int:=if gp u then(lL u,0)else([],1)
def dQ(p out:Bt):Bt × Bt:=
 if Lib.hasPrefix p [46,46,47]then(p.drop 3,out)
 else if Lib.hasPrefix p [46,47]then(p.drop 2,out)
 else if Lib.hasPrefix p [47,46,47]then(p.drop 2,out)
 else if p=[47,46]then([47],out)
 else if Lib.hasPrefix p [47,46,46,47]||p==[47,46,46]then(47::Lib.trimPrefix (p.drop 3) [47],out.take (dc 47 out-1))
 else if p=[46]\/p=[46,46]then([],out)
 else if Lib.indexByte (p.drop 1) 47+1=0 then([],out++p)
 else(p.drop (Lib.indexByte (p.drop 1) 47+1).toNat,out++p.take (Lib.indexByte (p.drop 1) 47+1).toNat)
def iI:Nat->Bt->Bt->Bt
 |0,_,out=>out
 |n+1,p,out=>if p=[]then out else iI n (dQ p out).1 (dQ p out).2
def nR(p:Bt):Bt:=iI p.length p []
def sx(b u:eG):eG:=
 {mA:=true,eX:=if u.mA then u.eX else b.eX,port:=if u.mA then u.port else b.port
  path:=if u.path=[]then b.path else if u.path.head?=some 47 then nR u.path else nR (b.path.take (dc 47 b.path)++u.path)
  asks:=if u.path=[]/\u.asks=false then b.asks else u.asks
  cI:=if u.path=[]/\u.asks=false then b.cI else u.cI}
def jy(b u:eG):eG × Int:=
 if gp b=true/\gp u=true/\b.mA=true then(if gp (sx b u)then(sx b u,0)else(fh,2))else(fh,1)
def dA(base s:Bt):Bt × Int:=
 if(fN s).2≠0 then([],(fN s).2)
 else if(jy (fN base).1 (fN s).1).2≠0 then([],(jy (fN base).1 (fN s).1).2)
 else uf (jy (fN base).1 (fN s).1).1
theorem Kp(c:UInt8)(w:World):Calls prog 94 #[.int .u8 c.toNat] w fun e w'=>e=.returned (.bool (pd c))/\w=w':=by
 have HH:Hy (pd c=!((decide (97<=c.toNat)&&decide (c.toNat<=122))||(decide (48<=c.toNat)&&decide (c.toNat<=57))||c.toNat==45||c.toNat==46)):=rfl;generalize pd c=H at*;generalize c.toNat=n at*;go_enter func94,ntmps94;go_wp2_with fail
 all_goals
  go_ret;refine⟨cH ?_,rfl⟩;rw[HH.o];clear HH;rw[bj];simp
  try omega
theorem Im(c:UInt8)(w:World):Calls prog 92 #[.int .u8 c.toNat] w fun e w'=>e=.returned (.bool (qP c))/\w=w':=by
 have HH:Hy (qP c=(decide (c.toNat<=32)||decide (126<c.toNat)||decide (0<=Lib.indexByte [34,35,60,62,92,94,123,124,125,96] c))):=rfl;have HC:=bD (strings_IndexByte ⟨#[34,35,60,62,92,94,123,124,125,96]⟩ (c.toNat:Int) w);have hc:((c.toNat:Int)).toNat.toUInt8=c:=by simp
 rw[hc]at HC;clear hc;rw[show(⟨#[34,35,60,62,92,94,123,124,125,96]⟩:ByteArray).data.toList=[34,35,60,62,92,94,123,124,125,96]from rfl]at HC;generalize Lib.indexByte [34,35,60,62,92,94,123,124,125,96] c=z at*;generalize qP c=H at*;generalize c.toNat=n at*;by_cases h1:n<=32
 ·have X7:(n:Int)<=32:=by omega
  go_enter func92,ntmps92;go_wp2_with fail;go_ret;exact⟨cH (by rw[HH.o,aS h1];rfl),rfl⟩
 ·have X7:¬(n:Int)<=32:=by omega
  by_cases h2:126<n
  ·have h2i:(126:Int)<(n:Int):=by omega
   go_enter func92,ntmps92;go_wp2_with fail;go_ret;exact⟨cH (by rw[HH.o,aS h2,aT h1];rfl),rfl⟩
  ·have h2i:¬(126:Int)<(n:Int):=by omega
   have HZ:Hy (H=decide (0<=z)):=by rw[Hy,HH.o,aT h1,aT h2];rfl
   clear HH;go_enter func92,ntmps92;go_wp2_with fail;refine HC.o.mono ?_;rintro e w2 ⟨rfl,rfl⟩;go_wp2_with fail;go_ret;exact⟨cH (by rw[HZ.o]),rfl⟩
theorem B6(b:Nat)(s:Bt)(cc:Nat)(w:World)(hb:∀k,k<s.length->w.cell? ⟨b,k,none⟩=some (.int .u8 ((s[k]?.getD 0).toNat:Int)))(hl:s.length<=100000):
 Calls prog 117 #[.slice (some ⟨b,0,none⟩) s.length cc,.func (.func 94) #[] #[]] w fun e w'=>∃z:Int,e=.returned (.int .i64 z)/\decide (0<=z)=s.any pd/\w=w':=by
 have HB:=bD hb;clear hb;go_enter func117,ntmps117;go_wp2_with fail;go_loopw [5,8] (fun _ i wr=>∃k:Nat,k<=s.length/\i=.int .i64 k/\Hy ((s.take k).any pd=false)/\Hy (wr=w))
  (fun _ i wr=>s.length-(intOf i).toNat)
 case atStart=>exact⟨0,ax _,rfl,rfl,(by first|exact trivial|exact rfl)⟩
 case round=>
  obtain⟨k,hk,rfl,HO,HW⟩:=hrel;obtain rfl:=HW.o;clear HW;by_cases bW:k<s.length
  ·have c0:=HB.o k bW;have nE:(0:Int)<=(k:Int):=by omega
   have fA:(k:Int)<(s.length:Int):=by omega
   have hg:s[k]?.getD 0=s[k]:=by rw[aB bW];rfl
   rw[hg]at c0;have sk:Hy ((s.take (k+1)).any pd=pd s[k]):=by
    rw[Hy,aC bW,bf,HO.o];simp
   have Wf:Hy (s.any pd=(pd s[k]||(s.drop (k+1)).any pd)):=by
    have h1:s=s.take (k+1)++s.drop (k+1):=(bt _ _).symm;rw[Hy,<-sk.o,<-bf,<-h1]
   clear hg;generalize s[k]=t at*;go_wp2_with fail;refine(Kp t _).mono ?_;rintro e w3 ⟨rfl,rfl⟩;cases hq:pd t with
   |true=>
    rw[hq]at Wf;go_wp2_with fail;go_ret;refine⟨k,rfl,?_,rfl⟩;rw[Wf.o];simp
   |false=>
    rw[hq]at sk;go_wp2_with fail;go_roundw
    case rel=>exact⟨k+1,bW,by go_num,sk.o,(by first|exact trivial|exact rfl)⟩
    case measure=>simp[intOf];omega
  ·have ln:k=s.length:=by omega
   subst ln;rw[aM]at HO;go_wp2_with fail;go_ret;refine⟨-1,rfl,?_,rfl⟩;rw[HO.o];rfl
theorem zT(b:Nat)(s:Bt)(cc:Nat)(w:World)(hb:∀k,k<s.length->w.cell? ⟨b,k,none⟩=some (.int .u8 ((s[k]?.getD 0).toNat:Int)))(hl:s.length<=100000):
 Calls prog 117 #[.slice (some ⟨b,0,none⟩) s.length cc,.func (.func 92) #[] #[]] w fun e w'=>∃z:Int,e=.returned (.int .i64 z)/\decide (0<=z)=s.any qP/\w=w':=by
 have HB:=bD hb;clear hb;go_enter func117,ntmps117;go_wp2_with fail;go_loopw [5,8] (fun _ i wr=>∃k:Nat,k<=s.length/\i=.int .i64 k/\Hy ((s.take k).any qP=false)/\Hy (wr=w))
  (fun _ i wr=>s.length-(intOf i).toNat)
 case atStart=>exact⟨0,ax _,rfl,rfl,(by first|exact trivial|exact rfl)⟩
 case round=>
  obtain⟨k,hk,rfl,HO,HW⟩:=hrel;obtain rfl:=HW.o;clear HW;by_cases bW:k<s.length
  ·have c0:=HB.o k bW;have nE:(0:Int)<=(k:Int):=by omega
   have fA:(k:Int)<(s.length:Int):=by omega
   have hg:s[k]?.getD 0=s[k]:=by rw[aB bW];rfl
   rw[hg]at c0;have sk:Hy ((s.take (k+1)).any qP=qP s[k]):=by
    rw[Hy,aC bW,bf,HO.o];simp
   have Wf:Hy (s.any qP=(qP s[k]||(s.drop (k+1)).any qP)):=by
    have h1:s=s.take (k+1)++s.drop (k+1):=(bt _ _).symm;rw[Hy,<-sk.o,<-bf,<-h1]
   clear hg;generalize s[k]=t at*;go_wp2_with fail;refine(Im t _).mono ?_;rintro e w3 ⟨rfl,rfl⟩;cases hq:qP t with
   |true=>
    rw[hq]at Wf;go_wp2_with fail;go_ret;refine⟨k,rfl,?_,rfl⟩;rw[Wf.o];simp
   |false=>
    rw[hq]at sk;go_wp2_with fail;go_roundw
    case rel=>exact⟨k+1,bW,by go_num,sk.o,(by first|exact trivial|exact rfl)⟩
    case measure=>simp[intOf];omega
  ·have ln:k=s.length:=by omega
   subst ln;rw[aM]at HO;go_wp2_with fail;go_ret;refine⟨-1,rfl,?_,rfl⟩;rw[HO.o];rfl
theorem xm(b:Nat)(s:Bt)(cc:Nat)(w:World)(hb:∀k,k<s.length->w.cell? ⟨b,k,none⟩=some (.int .u8 ((s[k]?.getD 0).toNat:Int)))(hl:s.length<=100000):
 Calls prog 91 #[.slice (some ⟨b,0,none⟩) s.length cc,.func (.func 94) #[] #[]] w fun e w'=>e=.returned (.bool (s.any pd))/\w=w':=by
 have HI:=bD (B6 b s cc w hb hl);clear hb;go_enter func91,ntmps91;go_wp2_with fail;refine HI.o.mono ?_;rintro e w3 ⟨z,rfl,hz,rfl⟩;have HZ:=bD hz;clear hz;go_wp2_with fail;go_ret;refine⟨?_,rfl⟩
 show Ending.returned (.bool _)=_
 exact congrArg (fun b=>Ending.returned (.bool b)) HZ.o
theorem wu(b:Nat)(s:Bt)(cc:Nat)(w:World)(hb:∀k,k<s.length->w.cell? ⟨b,k,none⟩=some (.int .u8 ((s[k]?.getD 0).toNat:Int)))(hl:s.length<=100000):
 Calls prog 91 #[.slice (some ⟨b,0,none⟩) s.length cc,.func (.func 92) #[] #[]] w fun e w'=>e=.returned (.bool (s.any qP))/\w=w':=by
 have HI:=bD (zT b s cc w hb hl);clear hb;go_enter func91,ntmps91;go_wp2_with fail;refine HI.o.mono ?_;rintro e w3 ⟨z,rfl,hz,rfl⟩;have HZ:=bD hz;clear hz;go_wp2_with fail;go_ret;refine⟨?_,rfl⟩
 show Ending.returned (.bool _)=_
 exact congrArg (fun b=>Ending.returned (.bool b)) HZ.o
open Go in
theorem ug(w:World)(t:TypeId)(s:ByteArray)(cap:Nat)(x y:Nat):∀k,k<(L s).length->(w.alloc (.cells (bytesRow s cap) t (x,y))).cell? ⟨w.heap.size,k,none⟩=some (.int .u8 (((L s)[k]?.getD 0).toNat:Int)):=by
 intro k hk;rw[cell_of_row _ w.heap.size k _ t (x,y) (heap_alloc_new w _),bytesRow_at s cap k (by simpa[L]using hk),aB hk];rfl
theorem yj(s:ByteArray)(w:World)(hs:s.size<=100000):Calls prog 57 #[.string s] w fun e w'=>e=.returned (.bool (!(L s).any qP))/\Below w.heap.size w w':=by
 have SH:=run_bytes_of_string (P:=prog) w 9 135 5 s rfl rfl rfl;have mC:=cm s;generalize grownCap w s.size 0 5=cap at SH;rw[mC]at SH;have HCC:=bD (fun(hl:(L s).length<=100000)=>wu w.heap.size (L s) cap (w.drew.alloc (.cells (bytesRow s cap) 5 ((bytesRow s cap).size,(bytesRow s cap).size+1))) (ug w.drew 5 s cap _ _) hl);have HL:Hy ((L s).length<=100000):=by rw[Hy,<-mC];exact hs
 have HB:Hy (Below w.heap.size w (w.drew.alloc (.cells (bytesRow s cap) 5 ((bytesRow s cap).size,(bytesRow s cap).size+1)))):=((aF w.heap.size w).drew).alloc (dv _) _;clear hs mC;go_enter func57,ntmps57;go_wp2_with fail;refine(HCC.o HL.o).mono ?_;rintro e w3 ⟨rfl,rfl⟩;go_wp2_with fail;go_ret;exact⟨rfl,HB.o⟩
theorem Kq(s:ByteArray)(w:World):Calls prog 59 #[.string s] w fun e w'=>e=.returned (.bool (CR (L s)))/\Below w.heap.size w w':=by
 have HH:Hy (CR (L s)=(decide (1<=(L s).length)&&decide ((L s).length<=100)&&!(L s).any pd)):=rfl;generalize CR (L s)=H at*;have mC:=cm s;by_cases h1:1<=s.size
 ·have X7:(1:Int)<=(s.size:Int):=by omega
  by_cases h2:s.size<=100
  ·have h2i:(s.size:Int)<=100:=by omega
   have HZ:Hy (H=!(L s).any pd):=by rw[Hy,HH.o,aS (by omega),aS (by omega)];rfl
   have SH:=run_bytes_of_string (P:=prog) w 9 135 5 s rfl rfl rfl;generalize grownCap w s.size 0 5=cap at SH;have HN:Hy (s.size=(L s).length):=mC;have Cv:∀(hl:(L s).length<=100000),Calls prog 91 #[.slice (some ⟨w.heap.size,0,none⟩) s.size cap,.func (.func 94) #[] #[]] (w.drew.alloc (.cells (bytesRow s cap) 5 ((bytesRow s cap).size,(bytesRow s cap).size+1))) fun e w'=>e=.returned (.bool ((L s).any pd))/\(w.drew.alloc (.cells (bytesRow s cap) 5 ((bytesRow s cap).size,(bytesRow s cap).size+1)))=w':=by
    intro hl;rw[mC];exact xm w.heap.size (L s) cap _ (ug w.drew 5 s cap _ _) hl
   have HCC:=bD (Cv (by omega));have HB:Hy (Below w.heap.size w (w.drew.alloc (.cells (bytesRow s cap) 5 ((bytesRow s cap).size,(bytesRow s cap).size+1)))):=((aF w.heap.size w).drew).alloc (dv _) _;clear mC Cv HH h1 h2 HN;go_enter func59,ntmps59;go_wp2_with fail;refine HCC.o.mono ?_;rintro e w3 ⟨rfl,rfl⟩;go_wp2_with fail;go_ret;exact⟨cH (by rw[HZ.o]),HB.o⟩
  ·have h2i:¬(s.size:Int)<=100:=by omega
   have HZ:Hy (H=false):=by rw[Hy,HH.o,aS (show 1<=(L s).length by omega),aT (show ¬(L s).length<=100 by omega)];rfl
   clear mC HH h1 h2;go_enter func59,ntmps59;go_wp2_with fail;go_ret;exact⟨cH (by rw[HZ.o]),aF _ _⟩
 ·have X7:¬(1:Int)<=(s.size:Int):=by omega
  have HZ:Hy (H=false):=by rw[Hy,HH.o,aT (show ¬1<=(L s).length by omega)];rfl
  clear mC HH h1;go_enter func59,ntmps59;go_wp2_with fail;go_ret;exact⟨cH (by rw[HZ.o]),aF _ _⟩
theorem ym(c:UInt8):∀a b:Bt,dc c (a++b)=if dc c b=0 then dc c a else a.length+dc c b
 |[],b=>by simp only[List.nil_append,aD,Nat.zero_add,dc];split<;>simp_all
 |x::a,b=>by
  rw[aU,dc,ym c a b,dc,ak];by_cases h:dc c b=0
  ·rw[ae h,ae h]
  ·rw[aa h,aa h,aa (by omega)];omega
theorem Tg{c:UInt8}{l:Bt}{i:Nat}(hi:i<l.length)(h0:dc c (l.drop (i+1))=0)(h:l[i]=c):dc c l=i+1:=by
 have e:l=l.take i++(l[i]::l.drop (i+1)):=by rw[<-aE hi,bt]
 have h1:dc c (l[i]::l.drop (i+1))=1:=by rw[dc,ae h0,ae h]
 rw[e,ym,h1,aa (by omega),ay];omega
theorem QC{c:UInt8}{l:Bt}{i:Nat}(hi:i<l.length)(h0:dc c (l.drop (i+1))=0)(h:l[i]≠c):dc c (l.drop i)=0:=by
 rw[aE hi,dc,ae h0,aa h]
theorem yn(c:UInt8):∀l:Bt,dc c l<=l.length
 |[]=>dv _
 |x::l=>by
  have:=yn c l;rw[dc,ak];split
  ·split<;>omega
  ·omega
theorem B7(s:ByteArray)(c:UInt8)(w:World)(hs:s.size<=1000000):
 Calls prog 87 #[.string s,.int .u8 c.toNat] w fun e w'=>e=.returned (.int .i64 ((dc c (L s):Int)-1))/\w=w':=by
 have mC:=cm s;go_enter func87,ntmps87;go_wp2_with fail;go_loopw [5] (fun i wr=>∃(k:Nat) (z:Int),k<=s.size/\z=(k:Int)-1/\i=.int .i64 z/\Hy (dc c ((L s).drop k)=0)/\Hy (wr=w))
  (fun i wr=>(intOf i+1).toNat)
 case atStart=>exact⟨s.size,_,dv _,rfl,rfl,by rw[Hy,mC,bu];rfl,rfl⟩
 case round=>
  obtain⟨k,z,hk,hz,rfl,HO,HW⟩:=hrel;obtain rfl:=HW.o;clear HW;cases k with
  |zero=>
   have rq:z=-1:=by omega
   subst rq;clear hz;go_wp2_with fail;go_ret;refine⟨?_,rfl⟩;have:=HO.o;rw[bm]at this;rw[this];rfl
  |succ j=>
   have rq:z=(j:Int):=by omega
   subst rq;clear hz;have hj1:(0:Int)<=(j:Int):=by omega
   have hj2:(j:Int)<(s.size:Int):=by omega
   have Wg:j<s.size:=by omega
   have ZB:j<(L s).length:=by omega
   by_cases hc:s[j]=c
   ·have hb:((s[j].toNat:Int)==(c.toNat:Int))=true:=by rw[hc];simp
    have HR:Hy (dc c (L s)=j+1):=Tg ZB HO.o (by rw[<-dP s j Wg];exact hc);clear hc;go_wp2_with fail;go_ret;refine⟨?_,rfl⟩;rw[HR.o];exact congrArg (fun x=>Ending.returned (Value.int .i64 x)) (by omega)
   ·have hb:((s[j].toNat:Int)==(c.toNat:Int))=false:=by rw[ai];exact fun e=>hc ((mQ _ _).2 e)
    have HR:Hy (dc c ((L s).drop j)=0):=QC ZB HO.o (by rw[<-dP s j Wg];exact hc);clear hc;go_wp2_with fail;go_roundw
    case rel=>exact⟨j,(j:Int)-1,by omega,rfl,rfl,HR.o,(by first|exact trivial|exact rfl)⟩
    case measure=>simp[intOf]<;>omega
theorem pO(s:ByteArray)(c:UInt8)(w:World)(hs:s.size<=1000000):
 Calls prog 54 #[.string s,.int .u8 c.toNat] w fun e w'=>e=.returned (.int .i64 ((dc c (L s):Int)-1))/\w=w':=by
 go_enter func54,ntmps54;go_wp2_with fail;refine(B7 s c w hs).mono ?_;rintro e w2 ⟨rfl,rfl⟩;go_wp2_with fail;go_ret;exact⟨rfl,rfl⟩
def eI(s p:Bt):Bt × Bool:=if Lib.hasPrefix s p then(s.drop p.length,true)else(s,false)
theorem eT{s p:Bt}(h:Lib.hasPrefix s p=true):p.length<=s.length:=by
 unfold Lib.hasPrefix at h;exact(List.isPrefixOf_iff_prefix.1 h).length_le
theorem zU(s p:ByteArray)(w:World):
 Calls prog 168 #[.string s,.string p] w fun e w'=>e=.returned (.tuple #[.string (bs (eI (L s) (L p)).1),.bool (eI (L s) (L p)).2])/\w=w':=by
 have HC:=bD (stringslite_HasPrefix s p w);by_cases hp:Lib.hasPrefix s.data.toList p.data.toList=true
 ·have hp:Lib.hasPrefix (L s) (L p)=true:=hp;have hl:=eT hp;have Cw:p.size<=s.size:=by rw[cm,cm];exact hl
  have HV:Hy (eI (L s) (L p)=((L s).drop p.size,true)):=by rw[Hy,eI,ae hp,cm]
  have Io:Lib.hasPrefix s.data.toList p.data.toList=true:=hp;rw[Io]at HC;clear hp Io hl;go_enter func168,ntmps168;go_wp2_with fail;refine HC.o.mono ?_;rintro e w2 ⟨rfl,rfl⟩;go_wp2_with fail;go_ret2;refine⟨?_,rfl⟩;rw[HV.o];refine congrArg (fun x=>Ending.returned (Value.tuple #[Value.string x,.bool true])) (tZ ?_);rw[eB,dX,cm s,aM]
 ·rw[Bool.not_eq_true]at hp;have HV:Hy (eI (L s) (L p)=(L s,false)):=by rw[Hy,eI,aa (by show ¬Lib.hasPrefix s.data.toList p.data.toList=true;rw[hp];simp)]
  rw[hp]at HC;clear hp;go_enter func168,ntmps168;go_wp2_with fail;refine HC.o.mono ?_;rintro e w2 ⟨rfl,rfl⟩;go_wp2_with fail;go_ret2;refine⟨?_,rfl⟩;rw[HV.o];exact congrArg (fun x=>Ending.returned (Value.tuple #[Value.string x,.bool false])) (qo s).symm
theorem jd(s p:ByteArray)(w:World):
 Calls prog 145 #[.string s,.string p] w fun e w'=>e=.returned (.tuple #[.string (bs (eI (L s) (L p)).1),.bool (eI (L s) (L p)).2])/\w=w':=by
 go_enter func145,ntmps145;go_wp2_with fail;refine(zU s p w).mono ?_;rintro e w2 ⟨rfl,rfl⟩;go_wp2_with fail;go_ret2;exact⟨rfl,rfl⟩
def Th(w:World)(g:Nat)(l:Bt):Prop:=∀k,k<l.length->w.cell? ⟨g,k,none⟩=some (.int .u8 ((l[k]?.getD 0).toNat:Int))/\w.frozen? ⟨g,k,none⟩=false
theorem Th.set{w:World}{g:Nat}{l:Bt}(h:Th w g l)(k:Nat)(hk:k<l.length)(c:UInt8):Th (w.setCell ⟨g,k,none⟩ (.int .u8 (c.toNat:Int))) g (l.set k c):=by
 intro j hj;rw[List.length_set]at hj;refine⟨?_,?_⟩
 ·by_cases e:k=j
  ·subst e;rw[World.cell?_setCell_same _ _ _ (h k hk).1,List.getElem?_set_self hk];rfl
  ·rw[World.cell?_setCell_other _ _ _ _ (by first|(simp;done)|(simp;omega)),List.getElem?_set_ne e];exact(h j hj).1
 ·rw[World.frozen?_setCell];exact(h j hj).2
theorem Ti(w:World)(t:TypeId)(s:ByteArray)(cap:Nat):Th (w.alloc (.cells (bytesRow s cap) t ((bytesRow s cap).size,(bytesRow s cap).size+1))) w.heap.size (L s):=by
 intro k hk;refine⟨ug w t s cap _ _ k hk,?_⟩;have h:=heap_alloc_new w (.cells (bytesRow s cap) t ((bytesRow s cap).size,(bytesRow s cap).size+1));unfold World.frozen?;rw[show(⟨w.heap.size,k,none⟩:Addr).block=w.heap.size from rfl,h];have hz:k<(bytesRow s cap).size:=by
  have e:(bytesRow s cap).size=s.data.size+(cap-s.size):=by simp[bytesRow]
  have h2:k<s.data.size:=by rw[show s.data.size=s.data.toList.length by simp];exact hk
  omega
 show(decide ((bytesRow s cap).size<=k)&&decide (k<(bytesRow s cap).size+1))=false
 rw[aT (by omega)];rfl
theorem Kr(l:Bt)(k:Nat)(h:k<l.length):(l.take (k+1)).map nD++l.drop (k+1)=((l.take k).map nD++l.drop k).set k (nD l[k]):=by
 have hl:((l.take k).map nD).length=k:=by rw[ah,ay];omega
 rw[List.set_append_right _ _ (by omega),hl,Nat.sub_self,aE h,List.set_cons_zero,aC h,aK];simp
theorem Tj(l:Bt)(k:Nat)(h:k<l.length):((l.take k).map nD++l.drop k)[k]?=some l[k]:=by
 have hl:((l.take k).map nD).length=k:=by rw[ah,ay];omega
 rw[List.getElem?_append_right (by omega),hl,Nat.sub_self,List.getElem?_drop,Nat.add_zero,aB h]
theorem Tl(l:Bt)(k:Nat)(h:k<l.length)(hk:nD l[k]=l[k]):(l.take (k+1)).map nD++l.drop (k+1)=(l.take k).map nD++l.drop k:=by
 rw[Kr l k h,hk];apply List.ext_getElem?;intro i;rw[List.getElem?_set];split
 ·rename_i e;subst e;rw[Tj l k h];have hMl:((l.take k).map nD++l.drop k).length=l.length:=by rw[af,ah,ay,aj];omega
  rw[ae (by omega)]
 ·rfl
theorem mD(s:ByteArray)(w:World)(hs:s.size<=1000000):Calls prog 49 #[.string s] w fun e w'=>e=.returned (.string (bs (jJ (L s))))/\Below w.heap.size w w':=by
 have SH:=run_bytes_of_string (P:=prog) w 9 135 5 s rfl rfl rfl;have mC:=cm s;generalize grownCap w s.size 0 5=cap at SH;rw[mC]at SH;have HL:Hy ((L s).length<=1000000):=by rw[Hy,<-mC];exact hs
 have HB:Hy (Below w.heap.size w (w.drew.alloc (.cells (bytesRow s cap) 5 ((bytesRow s cap).size,(bytesRow s cap).size+1)))):=((aF w.heap.size w).drew).alloc (dv _) _;have HR:=bD (Ti w.drew 5 s cap);clear hs mC;generalize L s=l at*;generalize w.drew.alloc (.cells (bytesRow s cap) 5 ((bytesRow s cap).size,(bytesRow s cap).size+1))=w1 at*;have tD:(l.length:Int)<=1000000:=by have:=HL.o;omega
 go_enter func49,ntmps49;go_wp2_with fail;go_loopw [4,5,10] (fun _ _ i wr=>∃k:Nat,k<=l.length/\i=.int .i64 k/\Hy (Th wr w.heap.size ((l.take k).map nD++l.drop k))/\Hy (Below w.heap.size w wr))
  (fun _ _ i wr=>l.length-(intOf i).toNat)
 case atStart=>exact⟨0,ax _,rfl,by rw[List.take_zero,bm];exact HR.o,HB.o⟩
 case round=>
  clear HB HR;obtain⟨k,hk,rfl,HR,HB⟩:=hrel;by_cases bW:k<l.length
  ·have nE:(0:Int)<=(k:Int):=by omega
   have fA:(k:Int)<(l.length:Int):=by omega
   have hll:((l.take k).map nD++l.drop k).length=l.length:=by rw[af,ah,ay,aj];omega
   obtain⟨c0,f0⟩:=HR.o k (by omega);rw[Tj l k bW,Option.getD_some]at c0;have sk:=bD (Kr l k bW);have HSA:=bD (Tl l k bW);have HSE:=bD (HR.o.set k (by omega) (nD l[k]));have PE:Hy (nD l[k]=if 65<=l[k].toNat/\l[k].toNat<=90 then l[k]+32 else l[k]):=rfl;clear hll;generalize l[k]=c at*;by_cases hc:65<=c.toNat/\c.toNat<=90
   ·obtain⟨q1,q2⟩:=hc;have hv:(c.toNat:Int)+97-65=((nD c).toNat:Int):=by
     rw[PE.o,ae ⟨q1,q2⟩,UInt8.toNat_add]
     show _=(((c.toNat+32)%256:Nat):Int)
     omega
    have HV:=bD hv;have p1:(65:Int)<=(c.toNat:Int):=by omega
    have p2:(c.toNat:Int)<=90:=by omega
    clear hv q1 q2;go_wp2_with fail;go_roundw
    case rel=>
     refine⟨k+1,bW,by go_num,?_,?_⟩
     ·rw[sk.o,HV.o];exact HSE.o
     ·exact HB.o.setCell (dv _) _
    case measure=>simp[intOf];omega
   ·have HEQ:Hy (nD c=c):=by rw[Hy,PE.o,aa hc]
    have nC:(65:Int)<=(c.toNat:Int)->¬(c.toNat:Int)<=90:=by omega
    by_cases h65:(65:Int)<=(c.toNat:Int)
    ·have h90:=nC h65;clear hc nC;go_wp2_with fail;go_roundw
     case rel=>exact⟨k+1,bW,by go_num,by rw[HSA.o HEQ.o];exact HR.o,HB.o⟩
     case measure=>simp[intOf];omega
    ·clear hc nC;go_wp2_with fail;go_roundw
     case rel=>exact⟨k+1,bW,by go_num,by rw[HSA.o HEQ.o];exact HR.o,HB.o⟩
     case measure=>simp[intOf];omega
  ·have ln:k=l.length:=by omega
   subst ln;rw[aM,bu,List.append_nil]at HR;have aq7:=run_convert_bytes_back (P:=prog) wr 135 9 5 ⟨w.heap.size,0,none⟩ cap (l.map nD) underlying135 underlying5 underlying9 (fun j hj=>by
    have Ff:(⟨w.heap.size,0,none⟩:Addr).add j=⟨w.heap.size,j,none⟩:=by unfold Addr.add;split<;>simp_all
    rw[Ff,(HR.o j hj).1,aB hj];rfl)
   rw[ah]at aq7;go_wp2_with fail;go_ret;exact⟨rfl,HB.o⟩
theorem Ks(a b:ByteArray)(w:World)(h1:a.size<=1000000)(h2:b.size<=1000000):Calls prog 31 #[.string a,.string b] w fun e w'=>e=.returned (.bool (jJ (L a)==jJ (L b)))/\Below w.heap.size w w':=by
 have HA:=bD h1;have HB:=bD h2;clear h1 h2;go_enter func31,ntmps31;go_wp2_with fail;refine(mD a w HA.o).mono ?_;rintro e w1 ⟨rfl,h1⟩;have H1:=bD h1;clear h1;go_wp2_with fail;refine(mD b w1 HB.o).mono ?_;rintro e w2 ⟨rfl,h2⟩;have H2:=bD (H1.o.trans (h2.mono H1.o.size));clear h2;go_wp2_with fail;go_ret;exact⟨cH (by rw[bQ,bQ]),H2.o⟩
theorem Ni(c:UInt8)(w:World):Calls prog 89 #[.int .u8 c.toNat] w fun e w'=>e=.returned (.int .u64 (((c-48).toNat:Nat):Int))/\w=w':=by
 have hv:(c-48).toNat=(c.toNat+208)%256:=by rw[UInt8.toNat_sub];show(256-48+c.toNat)%256=_;omega
 have HV:=bD hv;have hc:=UInt8.toNat_lt c;by_cases h:48<=c.toNat
 ·have h1:(48:Int)<=(c.toNat:Int):=by omega
  have zF:(((c-48).toNat:Nat):Int)=(c.toNat:Int)-48:=by omega
  have eA:=bD zF;clear hv zF;go_enter func89,ntmps89;go_wp2_with fail;go_ret;exact⟨by rw[eA.o];rfl,rfl⟩
 ·have hw:IntKind.u8.wrap ((c.toNat:Int)-48)=(c.toNat:Int)+208:=by rw[IntKind.wrap_u8];omega
  have zF:(((c-48).toNat:Nat):Int)=(c.toNat:Int)+208:=by omega
  have eA:=bD zF;clear hv zF;go_enter func89,ntmps89;go_wp2_with fail;go_ret;exact⟨by rw[eA.o];rfl,rfl⟩
theorem PG(c:UInt8):Il c=decide ((c-48).toNat<10)/\(Il c=true->(c-48).toNat=c.toNat-48):=by
 have hv:(c-48).toNat=(c.toNat+208)%256:=by rw[UInt8.toNat_sub];show(256-48+c.toNat)%256=_;omega
 have hc:=UInt8.toNat_lt c;unfold Il;rw[bj,aG,aH,aH,aH];constructor
 ·omega
 ·omega
theorem qQ(c:UInt8)(l:Bt)(n:Nat)(b:Bool):di (c::l) n b=if Il c then(if n*10+(c.toNat-48)<=1099511627776 then di l (n*10+(c.toNat-48)) b else di l 0 true)else none:=rfl
theorem Ip(s:ByteArray)(w:World)(hs:s.size<=1000000):Calls prog 88 #[.string s,.int .u64 10,.func (.func 89) #[] #[]] w fun e w'=>
 e=.returned (.tuple #[.int .u64 ((cW (L s)).1:Int),.int .i64 (cW (L s)).2])/\w=w':=by
 have mC:=cm s;by_cases h0:s.size=0
 ·have HN:Hy (cW (L s)=(0,10)):=by rw[Hy,cW,ae (bd (by omega))]
  have he:s.toList.isEmpty=true:=by rw[cw,bd (show(L s).length=0 by omega)];rfl
  have Iq:s.toList=[]:=by rw[cw];exact bd (by omega)
  clear mC;go_enter func88,ntmps88;go_wp2_with fail;go_ret2;exact⟨by rw[HN.o];rfl,rfl⟩
 ·have HN:Hy (cW (L s)=vG (di (L s) 0 false)):=by
   rw[Hy,cW,aa (fun e=>h0 (by rw[mC,e];rfl))]
  have he:s.toList.isEmpty=false:=by rw[cw];cases h:L s with|nil=>rw[h]at mC;exact aX mC h0|cons _ _=>rfl
  have Iq:¬s.toList=[]:=by rw[cw];intro e;rw[e]at mC;exact h0 mC
  have nF:=bD mC;clear mC h0;go_enter func88,ntmps88;go_wp2_with fail;go_loopw [8,9,10,11,17] (fun nv bv _ _ i wr=>∃(k n:Nat) (b:Bool),k<=s.size/\i=.int .i64 k/\nv=.int .u64 n/\bv=.bool b/\n<=1099511627776/\Hy (di (L s) 0 false=di ((L s).drop k) n b)/\Hy (wr=w))
   (fun _ _ _ _ i wr=>s.size-(intOf i).toNat)
  case atStart=>exact⟨0,0,false,ax _,rfl,rfl,rfl,by omega,by rw[bm];rfl,rfl⟩
  case round=>
   obtain⟨k,n,b,hk,rfl,rfl,rfl,hn,HO,HW⟩:=hrel;obtain rfl:=HW.o;clear HW;by_cases bW:k<s.size
   ·have nE:(0:Int)<=(k:Int):=by omega
    have fA:(k:Int)<(s.size:Int):=by omega
    have HC:Hy (di (L s) 0 false=if Il s[k]then(if n*10+(s[k].toNat-48)<=1099511627776 then di ((L s).drop (k+1)) (n*10+(s[k].toNat-48)) b else di ((L s).drop (k+1)) 0 true)else none):=by
     rw[Hy,HO.o,aE (by rw[<-cm];exact bW),qQ,<-dP s k bW]
    obtain⟨d1,d2⟩:=PG s[k];have HD:=bD (Ni s[k]);generalize(s[k]-48).toNat=d at*;cases hd:Il s[k]with
    |true=>
     have hd9:d<10:=by rw[hd]at d1;exact of_decide_eq_true d1.symm
     have hde:=d2 hd;have J1:Hy (di (L s) 0 false=if n*10+d<=1099511627776 then di ((L s).drop (k+1)) (n*10+d) b else di ((L s).drop (k+1)) 0 true):=by
      rw[Hy,HC.o,ae hd,hde]
     have ZC:¬(10:Int)<=(d:Int):=by omega
     clear hde d1 d2 hd HC HO;by_cases hb:n*10+d<=1099511627776
     ·have QD:Hy (di (L s) 0 false=di ((L s).drop (k+1)) (n*10+d) b):=by rw[Hy,J1.o,ae hb]
      have cu:¬(1099511627776:Int)<(n:Int)*10+(d:Int):=by omega
      clear J1;go_wp2_with fail;refine(HD.o _).mono ?_;rintro e w2 ⟨rfl,rfl⟩;go_wp2_with fail;go_roundw
      case rel=>exact⟨k+1,n*10+d,b,bW,by go_num,by go_num,rfl,hb,QD.o,(by first|exact trivial|exact rfl)⟩
      case measure=>simp[intOf];omega
     ·have QD:Hy (di (L s) 0 false=di ((L s).drop (k+1)) 0 true):=by rw[Hy,J1.o,aa hb]
      have cu:(1099511627776:Int)<(n:Int)*10+(d:Int):=by omega
      clear J1;go_wp2_with fail;refine(HD.o _).mono ?_;rintro e w2 ⟨rfl,rfl⟩;go_wp2_with fail;go_roundw
      case rel=>exact⟨k+1,0,true,bW,by go_num,rfl,rfl,by omega,QD.o,(by first|exact trivial|exact rfl)⟩
      case measure=>simp[intOf];omega
    |false=>
     have ZC:(10:Int)<=(d:Int):=by rw[hd]at d1;have:=of_decide_eq_false d1.symm;omega
     have HF:Hy (cW (L s)=(0,10)):=by rw[Hy,HN.o,HC.o,aa (by rw[hd];simp)];rfl
     clear d1 d2 hd HC HO;go_wp2_with fail;refine(HD.o _).mono ?_;rintro e w2 ⟨rfl,rfl⟩;go_wp2_with fail;go_ret2;exact⟨by rw[HF.o];rfl,rfl⟩
   ·have ln:k=s.size:=by omega
    have HF:Hy (cW (L s)=if b then(0,2)else(n,0)):=by
     rw[Hy,HN.o,HO.o,ln,nF.o,bu,di];rfl
    subst ln;clear HO;cases b with
    |true=>
     go_wp2_with fail;go_ret2;exact⟨by rw[HF.o];rfl,rfl⟩
    |false=>
     go_wp2_with fail;go_ret2;exact⟨by rw[HF.o];rfl,rfl⟩
theorem Fh(s:ByteArray)(w:World)(hs:s.size<=1000000):Calls prog 55 #[.string s] w fun e w'=>
 e=.returned (.tuple #[.int .u64 ((cW (L s)).1:Int),.int .i64 (cW (L s)).2])/\w=w':=by
 go_enter func55,ntmps55;go_wp2_with fail;refine(Ip s w hs).mono ?_;rintro e w2 ⟨rfl,rfl⟩;go_wp2_with fail;go_ret2;exact⟨rfl,rfl⟩
end Go.Proofs.YtejafaaihodehaaGreatDoor
namespace Go.Proofs.YtejafaaihodehaaGreatDoor
open Go Go.RowKit Go.Sort Tryz
def eK(W:World):Prop:=(∃m,W.cell? ⟨0,0,none⟩=some (.int .i64 m))/\Lib.TabIs prog W "internal/strconv.uint64pow10" .u64 Lib.pow10Tab
theorem zV{w w':World}{name:String}{k:IntKind}{zs:List Int}(h:Lib.TabIs prog w name k zs)(hb:∀g,g<w.heap.size->prog.globalNamed name=some g->w'.heap[g]?=w.heap[g]?):Lib.TabIs prog w' name k zs:=by
 unfold Lib.TabIs World.var? at*;cases hg:prog.globalNamed name with
 |none=>simp[hg]at h
 |some g=>
  have bW:g<w.heap.size:=by
   rcases Nat.lt_or_ge g w.heap.size with h1|h1
   ·exact h1
   ·rw[hg]at h;simp[Array.getElem?_eq_none h1]at h
  rw[hg]at h;simp only[Option.bind_some,hb g bW hg];exact h
theorem eK.below{w w':World}(h:eK w)(hb:Below w.heap.size w w'):eK w':=by
 obtain⟨⟨m,h1⟩,h2⟩:=h;exact⟨⟨m,(hb.cell (p:=⟨0,0,none⟩) (aq w _ h1)).trans h1⟩,zV h2 fun g hg _=>hb.block g hg⟩
theorem zW(u:Nat)(hu:u<18446744073709551616)(w:World)(Wd:Lib.TabIs prog w "internal/strconv.uint64pow10" .u64 Lib.pow10Tab):
 Calls prog 152 #[.int .u64 u,.int .i64 10] w fun e w'=>e=.returned (.string (bs (Lib.decDigits u)))/\Below w.heap.size w w':=by
 by_cases hs:u<100
 ·have h1:(u:Int)<100:=by omega
  go_enter func152,ntmps152;go_wp2_with fail;refine(internal_strconv_small u hs w).mono ?_;rintro e w2 ⟨rfl,rfl⟩;go_wp2_with fail;go_ret;exact⟨rfl,aF _ _⟩
 ·have h1:¬(u:Int)<100:=by omega
  have hu1:1<=u:=by omega
  have az8:Lib.nDigits u<=20:=by have:=Lib.numDigits_eq u hu1 hu;split at this<;>omega
  have cg:prog.arrayLen 229=24:=by kernel_rfl
  have aB3:∀W,(Instr.sliceAt 229 (.pointer (some ⟨w.heap.size,0,none⟩)) none (some (.int .i64 (Lib.nDigits u:Int))) none).run prog W=.ok (.slice (some ⟨w.heap.size,0,none⟩) (Lib.nDigits u) 24) W:=fun W=>by
   rw[run_sliceAt_array_h W 229 ⟨w.heap.size,0,none⟩ (by kernel_rfl) .i64 (Lib.nDigits u:Int) (by omega) (by rw[cg];omega)];go_simp
  have hH0:Holds (fun(b:UInt8)=>Value.int .u8 (b.toNat:Int)) (w.alloc (.cells Lib.zeros24 229)) w.heap.size 0 (Array.replicate (Lib.nDigits u) (0:UInt8)):=fun j hj=>by
   have hj':j<Lib.nDigits u:=by simpa using hj
   refine⟨?_,World.frozen?_alloc_new _ _ _ _⟩;rw[World.cell?_alloc_new,Lib.zeros24_at _ (by omega),getElem!_pos _ j hj];simp
  have ZD:=internal_strconv_formatBase10 w.heap.size 0 24 u (Array.replicate (Lib.nDigits u) 0) (w.alloc (.cells Lib.zeros24 229)) hH0 (by rw[Array.size_replicate];exact Lib.lt_pow_nDigits u) hu (by rw[Array.size_replicate];omega);rw[Array.size_replicate]at ZD;have HH0:=bD hH0;have HF:=bD ZD;have HT:=bD (Lib.tabIs_alloc Wd (.cells Lib.zeros24 229));clear hH0 cg ZD Wd;go_enter func152,ntmps152;go_wp2_with fail;refine(internal_strconv_numDigits u hu1 hu _ HT.o).mono ?_;rintro e w' ⟨rfl,rfl⟩;go_wp2_with fail;refine HF.o.mono ?_;rintro e w' ⟨rfl,k,v',dk,rfl,hF⟩;have Nj:=bD hF;have SH:(convert 135 9 (.slice (some ⟨w.heap.size,0,none⟩) (Lib.nDigits u) 24)).run prog ((putRow (fun(b:UInt8)=>Value.int .u8 (b.toNat:Int)) (w.alloc (.cells Lib.zeros24 229)) w.heap.size 0 dk).drewN k)=.ok (.string ⟨(Lib.decDigits u).toArray⟩) ((putRow (fun(b:UInt8)=>Value.int .u8 (b.toNat:Int)) (w.alloc (.cells Lib.zeros24 229)) w.heap.size 0 dk).drewN k):=by
   have h:=run_convert_bytes_back (P:=prog) ((putRow (fun(b:UInt8)=>Value.int .u8 (b.toNat:Int)) (w.alloc (.cells Lib.zeros24 229)) w.heap.size 0 dk).drewN k) 135 9 5 ⟨w.heap.size,0,none⟩ 24 (Lib.decDigits u) underlying135 underlying5 underlying9 (fun j hj=>by
    rw[Lib.row_is_numeral hF j hj,Lib.add_plain,World.cell?_drewN];exact cell?_putRow (fun(b:UInt8)=>Value.int .u8 (b.toNat:Int)) _ w.heap.size 0 _ dk HH0.o (by rw[hF.size,Array.size_replicate]) j (by rw[hF.size];rw[Lib.decDigits_length]at hj;exact hj))
   rw[Lib.decDigits_length]at h;exact h
  clear hF;generalize hW:(putRow (fun(b:UInt8)=>Value.int .u8 (b.toNat:Int)) (w.alloc (.cells Lib.zeros24 229)) w.heap.size 0 dk).drewN k=W at*;have HW:=bD hW;clear hW;go_wp2_with fail;go_ret;refine⟨rfl,?_⟩;rw[<-HW.o];obtain⟨os',_,e⟩:=putRow_grow_new (fun(b:UInt8)=>Value.int .u8 (b.toNat:Int)) w #[.cells Lib.zeros24 229] w.heap.size 0 dk (dv _);rw[alloc_eq_grow,e];exact Lib.below_grow _ w (dv _) k os'
theorem Gp(u:Nat)(hu:u<18446744073709551616)(w:World)(hg:eK w):Calls prog 93 #[.int .u64 u] w fun e w'=>e=.returned (.string (bs (Lib.decDigits u)))/\Below w.heap.size w w':=by
 have HG:=bD hg;clear hg;have hf:∀w:World,eK w->Calls prog 118 #[.int .u64 u,.int .i64 10] w fun e w'=>e=.returned (.string (bs (Lib.decDigits u)))/\Below w.heap.size w w':=by
  intro w hg;have HG:=bD hg;clear hg;go_enter func118,ntmps118;go_wp2_with fail;refine(zW u hu w HG.o.2).mono ?_;rintro e w2 ⟨rfl,h2⟩;have H2:=bD h2;clear h2;go_wp2_with fail;go_ret;exact⟨rfl,H2.o⟩
 have HF:=bD hf;clear hf;go_enter func93,ntmps93;go_wp2_with fail;refine(HF.o w HG.o).mono ?_;rintro e w2 ⟨rfl,h2⟩;have H2:=bD h2;clear h2;go_wp2_with fail;go_ret;exact⟨rfl,H2.o⟩
def ch(u:eG):Array Value:=#[.bool u.mA,.string (bs u.eX),.int .i64 u.port,.string (bs u.path),.bool u.asks,.string (bs u.cI)]
theorem Ir{n:Nat}(h:n<=1099511627776):(Lib.decDigits n).length<=20:=by
 rw[Lib.decDigits_length];by_cases h0:n=0
 ·subst h0;rw[Lib.nDigits_small (by omega)];omega
 ·have:=Lib.numDigits_eq n (by omega) (by omega);split at this<;>omega
theorem ga(l:Bt):(bs l).data.toList=l:=eB l
theorem yo(u:eG)(hs:u.kB)(hp:0<=u.port)(w:World)(hg:eK w):
 Calls prog 58 #[u.val] w fun e w'=>e=.returned (.string (bs (lL u)))/\Below w.heap.size w w':=by
 obtain⟨mA,eX,port,path,asks,cI⟩:=u;obtain⟨h1,h2,h3,-,h5⟩:=hs;simp only at h1 h2 h3 h5 hp
 show Calls prog 58 #[.agg #[.bool mA,.string (bs eX),.int .i64 port,.string (bs path),.bool asks,.string (bs cI)]] w _
 have HB:=bD (cU w (.cells #[.bool mA,.string (bs eX),.int .i64 port,.string (bs path),.bool asks,.string (bs cI)] 64));have z1:(⟨#[104,116,116,112,58,47,47]⟩:ByteArray).size=7:=rfl;have z2:(⟨#[63]⟩:ByteArray).size=1:=rfl;have z3:(⟨#[]⟩:ByteArray).size=0:=rfl;have z4:(⟨#[58]⟩:ByteArray).size=1:=rfl;have y1:(bs eX).size<=100000:=by rw[bJ];exact h1
 have y2:(bs path).size<=100000:=by rw[bJ];exact h2
 have y3:(bs cI).size<=100000:=by rw[bJ];exact h3
 have q1:(⟨#[104,116,116,112,58,47,47]⟩:ByteArray).size+(bs eX).size<=1000000:=by omega
 have q2:(⟨#[63]⟩:ByteArray).size+(bs cI).size<=1000000:=by omega
 have q4:(⟨#[]⟩:ByteArray).size+(bs path).size<=1000000:=by omega
 have q6:((⟨#[]⟩:ByteArray)++(bs path)).size+((⟨#[63]⟩:ByteArray)++(bs cI)).size<=1000000:=by rw[aP,aP];omega
 have q7:(bs path).size+((⟨#[63]⟩:ByteArray)++(bs cI)).size<=1000000:=by rw[aP];omega
 by_cases MU:port=0
 ·subst MU;have q3:((⟨#[104,116,116,112,58,47,47]⟩:ByteArray)++(bs eX)).size+(bs path).size<=1000000:=by rw[aP];omega
  have q5:((⟨#[104,116,116,112,58,47,47]⟩:ByteArray)++(bs eX)++(bs path)).size+((⟨#[63]⟩:ByteArray)++(bs cI)).size<=1000000:=by rw[aP,aP,aP];omega
  clear z1 z2 z3 z4 y1 y2 y3 h1 h2 h3 h5 hp hg;cases mA<;>cases asks
  all_goals
   go_enter func58,ntmps58;go_wp2_with fail;go_ret;refine⟨?_,HB.o⟩;refine congrArg (fun x=>Ending.returned (Value.string x)) (tZ ?_);rw[eB];simp[lL,pk,Ko,L,bs]
 ·cases mA with
  |false=>
   clear z1 z2 z3 z4 y1 y2 y3 h1 h2 h3 h5 hp hg;cases asks
   all_goals
    go_enter func58,ntmps58;go_wp2_with fail;go_ret;refine⟨?_,HB.o⟩;refine congrArg (fun x=>Ending.returned (Value.string x)) (tZ ?_);rw[eB];simp[lL,pk,Ko,L,bs]
  |true=>
   have b0:(port !=0)=true:=by rw[aQ];exact MU
   obtain⟨n,rfl⟩:∃n:Nat,port=n:=⟨port.toNat,by omega⟩;have hd:=Ir (n:=n) (by omega);have HPF:Hy (Ko (n:Int)=58::Lib.decDigits n):=by rw[Hy,Ko,aa MU];rfl
   have HGW:=bD (hg.below HB.o);have HDC:=bD (Gp n (by omega));have y4:(bs (Lib.decDigits n)).size<=20:=by rw[bJ];exact hd
   have q3:(⟨#[58]⟩:ByteArray).size+(bs (Lib.decDigits n)).size<=1000000:=by omega
   have q5:((⟨#[104,116,116,112,58,47,47]⟩:ByteArray)++(bs eX)).size+((⟨#[58]⟩:ByteArray)++(bs (Lib.decDigits n))).size<=1000000:=by rw[aP,aP];omega
   have q8:((⟨#[104,116,116,112,58,47,47]⟩:ByteArray)++(bs eX)++((⟨#[58]⟩:ByteArray)++(bs (Lib.decDigits n)))).size+(bs path).size<=1000000:=by rw[aP,aP,aP];omega
   have q9:((⟨#[104,116,116,112,58,47,47]⟩:ByteArray)++(bs eX)++((⟨#[58]⟩:ByteArray)++(bs (Lib.decDigits n)))++(bs path)).size+((⟨#[63]⟩:ByteArray)++(bs cI)).size<=1000000:=by rw[aP,aP,aP,aP,aP];omega
   have hw:IntKind.u64.wrap (n:Int)=(n:Int):=by rw[IntKind.wrap_u64];omega
   have HX:=bD (bL.new w 64 #[.bool true,.string (bs eX),.int .i64 (n:Int),.string (bs path),.bool asks,.string (bs cI)]);clear z1 z2 z3 z4 y1 y2 y3 y4 h1 h2 h3 h5 hp hg hd MU;cases asks
   all_goals
    go_enter func58,ntmps58;go_wp2_with fail;refine(HDC.o _ HGW.o).mono ?_;rintro e w2 ⟨rfl,cu⟩;have iL:=bD (HX.o.below cu HX.o.lt);have dm:=bD (HB.o.trans (cu.mono HB.o.size));have x3:=iL.o.cell 3;have x4:=iL.o.cell 4;have x5:=iL.o.cell 5;clear cu;go_wp2_with fail;go_ret;refine⟨?_,dm.o⟩;refine congrArg (fun x=>Ending.returned (Value.string x)) (tZ ?_);rw[eB,lL];simp only[HPF.o];simp[pk,L,bs]
end Go.Proofs.YtejafaaihodehaaGreatDoor
