/- Part 1. -/
import Derived.Test.YtejafaaihodehaaGreatDoorProg
import Derived.WalkKit
import Derived.Lib.Hide
import Derived.Maps.AppendAt
import Derived.Deep.AppendLies
import Derived.Deep.Draws
import Derived.Laws.OwnMore
import Derived.Laws.StructEq
import Derived.Deep.RegionHeld3
set_option linter.all false
set_option maxRecDepth 100000
set_option maxHeartbeats 8000000
namespace Go.Proofs.YtejafaaihodehaaGreatDoor
open Go Go.RowKit Tryz
abbrev Bt:=List (UInt8)
def Hy(p:Prop):Prop:=p
theorem Hy.o{p:Prop}(h:Hy p):p:=h
theorem Hy.out{p:Prop}(h:Hy p):p:=h
theorem bD{p:Prop}(h:p):Hy p:=h
def bs(l:Bt):ByteArray:=⟨l.toArray⟩
def L(s:ByteArray):Bt:=s.data.toList
@[simp] theorem eB (l:Bt):L (bs l)=l:=by simp[L,bs]
@[simp] theorem qo (s:ByteArray):bs (L s)=s:=by simp[L,bs]
theorem bJ(l:Bt):(bs l).size=l.length:=by show l.toArray.size=_;simp
theorem cm(s:ByteArray):s.size=(L s).length:=by show s.data.size=s.data.toList.length;simp
theorem tZ{a b:ByteArray}(h:L a=L b):a=b:=by rw[<-qo a,<-qo b,h]
theorem Zf{a b:Bt}:bs a=bs b↔a=b:=⟨fun h=>by have:=congrArg L h;simpa using this,fun h=>by rw[h]⟩
theorem ow(a b:ByteArray):L (a++b)=L a++L b:=by
 unfold L;rw[ByteArray.data_append,Array.toList_append]
theorem jc(a b:Bt):bs a++bs b=bs (a++b):=tZ (by simp[ow])
theorem dX(s:ByteArray)(i j:Nat):L (s.extract i j)=((L s).take j).drop i:=by
 unfold L;rw[ByteArray.data_extract,Array.toList_extract,List.extract_eq_take_drop,List.drop_take]
theorem gW(l:Bt)(i j:Nat):(bs l).extract i j=bs ((l.take j).drop i):=tZ (by simp[dX])
theorem cw(a:ByteArray):a.toList=L a:=ByteArray.toList_eq a
theorem bQ(l:Bt):(bs l).toList=l:=by rw[cw,eB]
theorem dP(s:ByteArray)(i:Nat)(h:i<s.size):s[i]=(L s)[i]'(by rw[<-cm];exact h):=rfl
theorem Nb(l:Bt)(i:Nat)(h:i<(bs l).size):(bs l)[i]=l[i]'(by rw[<-bJ];exact h):=by
 rw[dP];simp
theorem sq(c d:UInt8):(c==d)=((c.toNat:Int)==(d.toNat:Int)):=by
 rw[Bool.eq_iff_iff,beq_iff_eq,beq_iff_eq,<-UInt8.toNat_inj];omega
theorem Zg(c d:UInt8):(c !=d)=((c.toNat:Int)!=(d.toNat:Int)):=by
 rw[bne,bne,sq]
theorem XU(c d:UInt8):decide (c<=d)=decide ((c.toNat:Int)<=(d.toNat:Int)):=by
 rw[Bool.eq_iff_iff,decide_eq_true_eq,decide_eq_true_eq,UInt8.le_iff_toNat_le];omega
theorem mQ(c d:UInt8):c=d↔(c.toNat:Int)=(d.toNat:Int):=by rw[<-UInt8.toNat_inj];omega
theorem Zh{a b:Value}(h:a=b):Ending.returned a=.returned b:=by rw[h]
theorem cH{a b:Bool}(h:a=b):Ending.returned (.bool a)=.returned (.bool b):=by rw[h]
inductive GV where
 |int (n:Int)
 |str (s:Bt)
 |bool (b:Bool)
 |u8 (c:UInt8)
 |agg (fs:List GV)
 |row (sz:Nat) (l:List GV)
def mR(w:World)(F:Nat->Prop)(A:Option Addr)(xs:List Value):Prop:=
 xs≠[]->∃b o,A=some ⟨b,o,none⟩/\F b/\∀j u,xs[j]?=some u->w.cell? ⟨b,o+j,none⟩=some u
mutual
def GR(w:World)(F:Nat->Prop):GV->List Value->Prop
 |.int n,cs=>cs=[.int .i64 n]
 |.str s,cs=>cs=[.string (bs s)]
 |.bool b,cs=>cs=[.bool b]
 |.u8 c,cs=>cs=[.int .u8 (c.toNat:Int)]
 |.agg fs,cs=>yf w F fs cs
 |.row sz l,cs=>∃A c xs,cs=[.slice A l.length c]/\l.length<=c/\c<=maxLen/\xs.length=l.length*sz/\mR w F A xs/\fW w F sz l xs
def yf(w:World)(F:Nat->Prop):List GV->List Value->Prop
 |[],cs=>cs=[]
 |x::l,cs=>∃a b,cs=a++b/\GR w F x a/\yf w F l b
def fW(w:World)(F:Nat->Prop)(sz:Nat):List GV->List Value->Prop
 |[],cs=>cs=[]
 |x::l,cs=>∃a b,cs=a++b/\a.length=sz/\GR w F x a/\fW w F sz l b
end
theorem lK{w:World}{F:Nat->Prop}{n:Int}{cs:List Value}:GR w F (.int n) cs↔cs=[.int .i64 n]:=by simp only[GR]
theorem eQ{w:World}{F:Nat->Prop}{s:Bt}{cs:List Value}:GR w F (.str s) cs↔cs=[.string (bs s)]:=by simp only[GR]
theorem sr{w:World}{F:Nat->Prop}{b:Bool}{cs:List Value}:GR w F (.bool b) cs↔cs=[.bool b]:=by simp only[GR]
theorem XV{w:World}{F:Nat->Prop}{c:UInt8}{cs:List Value}:GR w F (.u8 c) cs↔cs=[.int .u8 (c.toNat:Int)]:=by simp only[GR]
theorem nN{w:World}{F:Nat->Prop}{l:List GV}{cs:List Value}:GR w F (.agg l) cs↔yf w F l cs:=by simp only[GR]
theorem jR{w:World}{F:Nat->Prop}{sz:Nat}{l:List GV}{cs:List Value}:GR w F (.row sz l) cs↔
 ∃A c xs,cs=[.slice A l.length c]/\l.length<=c/\c<=maxLen/\xs.length=l.length*sz/\mR w F A xs/\fW w F sz l xs:=by simp only[GR]
theorem ma{w:World}{F:Nat->Prop}{cs:List Value}:yf w F [] cs↔cs=[]:=by simp only[yf]
theorem cd{w:World}{F:Nat->Prop}{x:GV}{l:List GV}{cs:List Value}:yf w F (x::l) cs↔∃a b,cs=a++b/\GR w F x a/\yf w F l b:=by simp only[yf]
theorem jt{w:World}{F:Nat->Prop}{sz:Nat}{cs:List Value}:fW w F sz [] cs↔cs=[]:=by simp only[fW]
theorem gF{w:World}{F:Nat->Prop}{sz:Nat}{x:GV}{l:List GV}{cs:List Value}:fW w F sz (x::l) cs↔∃a b,cs=a++b/\a.length=sz/\GR w F x a/\fW w F sz l b:=by simp only[fW]
theorem mR.mono{w w':World}{F F':Nat->Prop}{A:Option Addr}{xs:List Value}(h:mR w F A xs)(hF:∀k,F k->F' k)
 (hw:∀k,F k->k<w.heap.size->w'.heap[k]?=w.heap[k]?):mR w' F' A xs:=by
 intro db;obtain⟨b,o,ha,hb,hc⟩:=h db;refine⟨b,o,ha,hF b hb,fun j u hu=>?_⟩;have bW:b<w.heap.size:=by
  have:=hc j u hu;exact World.block_lt_of_cell? w _ this
 rw[World.cell?_of_block (w:=w) (a:=⟨b,o+j,none⟩) (hw b hb bW)];exact hc j u hu
mutual
theorem GR.mono{w w':World}{F F':Nat->Prop}(hF:∀k,F k->F' k)(hw:∀k,F k->k<w.heap.size->w'.heap[k]?=w.heap[k]?):∀(x:GV) (cs:List Value),GR w F x cs->GR w' F' x cs
 |.int _,_,h=>by simpa only[GR]using h
 |.str _,_,h=>by simpa only[GR]using h
 |.bool _,_,h=>by simpa only[GR]using h
 |.u8 _,_,h=>by simpa only[GR]using h
 |.agg fs,cs,h=>by
  simp only[GR]at h|-;exact yf.mono hF hw fs cs h
 |.row sz l,cs,h=>by
  simp only[GR]at h|-;obtain⟨A,c,xs,h1,h2,h3,h4,h5,h6⟩:=h;exact⟨A,c,xs,h1,h2,h3,h4,h5.mono hF hw,fW.mono hF hw sz l xs h6⟩
theorem yf.mono{w w':World}{F F':Nat->Prop}(hF:∀k,F k->F' k)(hw:∀k,F k->k<w.heap.size->w'.heap[k]?=w.heap[k]?):∀(l:List GV) (cs:List Value),yf w F l cs->yf w' F' l cs
 |[],_,h=>by simpa only[yf]using h
 |x::l,cs,h=>by
  simp only[yf]at h|-;obtain⟨a,b,h1,h2,h3⟩:=h;exact⟨a,b,h1,GR.mono hF hw x a h2,yf.mono hF hw l b h3⟩
theorem fW.mono{w w':World}{F F':Nat->Prop}(hF:∀k,F k->F' k)(hw:∀k,F k->k<w.heap.size->w'.heap[k]?=w.heap[k]?)(sz:Nat):∀(l:List GV) (cs:List Value),fW w F sz l cs->fW w' F' sz l cs
 |[],_,h=>by simpa only[fW]using h
 |x::l,cs,h=>by
  simp only[fW]at h|-;obtain⟨a,b,h1,h0,h2,h3⟩:=h;exact⟨a,b,h1,h0,GR.mono hF hw x a h2,fW.mono hF hw sz l b h3⟩
end
mutual
theorem GR.du{w:World}{F:Nat->Prop}:∀(x:GV) (cs:List Value),GR w F x cs->GR w (fun k=>F k/\k<w.heap.size) x cs
 |.int _,_,h=>by simpa only[GR]using h
 |.str _,_,h=>by simpa only[GR]using h
 |.bool _,_,h=>by simpa only[GR]using h
 |.u8 _,_,h=>by simpa only[GR]using h
 |.agg fs,cs,h=>by
  simp only[GR]at h|-;exact yf.du fs cs h
 |.row sz l,cs,h=>by
  simp only[GR]at h|-;obtain⟨A,c,xs,h1,h2,h3,h4,h5,h6⟩:=h;refine⟨A,c,xs,h1,h2,h3,h4,fun db=>?_,fW.du sz l xs h6⟩;obtain⟨b,o,ha,hb,hc⟩:=h5 db;refine⟨b,o,ha,⟨hb,?_⟩,hc⟩
  match xs,db with
  |u::_,_=>exact World.block_lt_of_cell? w _ (hc 0 u rfl)
theorem yf.du{w:World}{F:Nat->Prop}:∀(l:List GV) (cs:List Value),yf w F l cs->yf w (fun k=>F k/\k<w.heap.size) l cs
 |[],_,h=>by simpa only[yf]using h
 |x::l,cs,h=>by
  simp only[yf]at h|-;obtain⟨a,b,h1,h2,h3⟩:=h;exact⟨a,b,h1,GR.du x a h2,yf.du l b h3⟩
theorem fW.du{w:World}{F:Nat->Prop}(sz:Nat):∀(l:List GV) (cs:List Value),fW w F sz l cs->fW w (fun k=>F k/\k<w.heap.size) sz l cs
 |[],_,h=>by simpa only[fW]using h
 |x::l,cs,h=>by
  simp only[fW]at h|-;obtain⟨a,b,h1,h0,h2,h3⟩:=h;exact⟨a,b,h1,h0,GR.du x a h2,fW.du sz l b h3⟩
end
theorem GR.below{w w':World}{F:Nat->Prop}{x:GV}{cs:List Value}(h:GR w F x cs)(hb:Below w.heap.size w w'):GR w' F x cs:=
 GR.mono (fun _ h=>h) (fun k _ hk=>hb.block k hk) x cs h
theorem GR.dY{w:World}{F F':Nat->Prop}{x:GV}{cs:List Value}(h:GR w F x cs)(hF:∀k,F k->F' k):GR w F' x cs:=
 GR.mono hF (fun _ _ _=>rfl) x cs h
theorem fW.dY{w:World}{F F':Nat->Prop}{sz:Nat}{l:List GV}{cs:List Value}(h:fW w F sz l cs)(hF:∀k,F k->F' k):fW w F' sz l cs:=
 fW.mono hF (fun _ _ _=>rfl) sz l cs h
theorem fW.length{w:World}{F:Nat->Prop}{sz:Nat}:∀{l:List GV} {cs:List Value},fW w F sz l cs->cs.length=l.length*sz
 |[],_,h=>by simp only[fW]at h;subst h;simp
 |x::l,cs,h=>by
  simp only[fW]at h;obtain⟨a,b,rfl,h0,_,h3⟩:=h;rw[List.length_append,h0,fW.length h3,List.length_cons,Nat.add_mul];omega
theorem fW.append{w:World}{F:Nat->Prop}{sz:Nat}{m:List GV}{ys:List Value}(hm:fW w F sz m ys):
 ∀{l:List GV} {xs:List Value},fW w F sz l xs->fW w F sz (l++m) (xs++ys)
 |[],_,h=>by simp only[fW]at h;subst h;simpa using hm
 |x::l,cs,h=>by
  simp only[fW]at h;obtain⟨a,b,rfl,h0,h2,h3⟩:=h;simp only[List.cons_append,fW];exact⟨a,b++ys,by simp,h0,h2,fW.append hm h3⟩
theorem fW.at_{w:World}{F:Nat->Prop}{sz:Nat}:∀{l:List GV} {xs:List Value} (_:fW w F sz l xs) (i:Nat) (hi:i<l.length),
 ∃cs,GR w F l[i] cs/\cs.length=sz/\∀j,j<sz->xs[i*sz+j]?=cs[j]?
 |[],_,_,i,hi=>absurd hi (by simp)
 |x::l,cs,h,0,_=>by
  simp only[fW]at h;obtain⟨a,b,rfl,h0,h2,_⟩:=h;exact⟨a,h2,h0,fun j hj=>by rw[Nat.zero_mul,Nat.zero_add,List.getElem?_append_left (by omega)]⟩
 |x::l,cs,h,i+1,hi=>by
  simp only[fW]at h;obtain⟨a,b,rfl,h0,_,h3⟩:=h;obtain⟨c,h4,h5,h6⟩:=fW.at_ h3 i (by simpa using hi);refine⟨c,h4,h5,fun j hj=>?_⟩;have e:(i+1)*sz+j=a.length+(i*sz+j):=by rw[h0,Nat.add_mul];omega
  rw[e,List.getElem?_append_right (by omega),Nat.add_sub_cancel_left];exact h6 j hj
theorem fW.split{w:World}{F:Nat->Prop}{sz:Nat}{m:List GV}:∀{l:List GV} {xs:List Value} (_:fW w F sz (l++m) xs),∃a b,xs=a++b/\fW w F sz l a/\fW w F sz m b
 |[],xs,h=>⟨[],xs,rfl,by simp only[fW],h⟩
 |x::l,cs,h=>by
  simp only[List.cons_append,fW]at h;obtain⟨a,b,rfl,h0,h2,h3⟩:=h;obtain⟨a',b',rfl,h4,h5⟩:=fW.split h3;refine⟨a++a',b',by simp,?_,h5⟩;simp only[fW];exact⟨a,a',rfl,h0,h2,h4⟩
theorem fW.take{w:World}{F:Nat->Prop}{sz:Nat}:∀{l:List GV} {xs:List Value} (_:fW w F sz l xs) (n:Nat),fW w F sz (l.take n) (xs.take (n*sz))
 |l,xs,h,0=>by simp[fW]
 |[],xs,h,n+1=>by simp only[fW]at h;subst h;simp[fW]
 |x::l,cs,h,n+1=>by
  simp only[fW]at h;obtain⟨a,b,rfl,h0,h2,h3⟩:=h;simp only[List.take_succ_cons,fW];refine⟨a,b.take (n*sz),?_,h0,h2,fW.take h3 n⟩;rw[List.take_append,h0,List.take_of_length_le (by rw[h0,Nat.add_mul];omega),Nat.add_mul];congr 2;omega
theorem pK{w:World}{F:Nat->Prop}{sz:Nat}{l:List GV}{v:Value}(h:GR w F (.row sz l) [v])(lQ:0<sz):
 ∃A c,v=.slice A l.length c/\l.length<=c/\c<=maxLen/\(l≠[]->∃b o,A=some ⟨b,o,none⟩/\F b/\
  ∀i (hi:i<l.length),∃cs,GR w F l[i] cs/\cs.length=sz/\∀j u,cs[j]?=some u->w.cell? ⟨b,o+i*sz+j,none⟩=some u):=by
 simp only[GR]at h;obtain⟨A,c,xs,h1,h2,h3,h4,h5,h6⟩:=h;refine⟨A,c,by simpa using h1,h2,h3,fun db=>?_⟩;have hx:xs≠[]:=by
  rintro rfl;have:l.length*sz=0:=by simpa using h4.symm
  rcases Nat.mul_eq_zero.1 this with h|h
  ·exact db (List.eq_nil_of_length_eq_zero h)
  ·omega
 obtain⟨b,o,hA,hF,hc⟩:=h5 hx;refine⟨b,o,hA,hF,fun i hi=>?_⟩;obtain⟨cs,g1,g2,g3⟩:=fW.at_ h6 i hi;refine⟨cs,g1,g2,fun j u hu=>?_⟩;have hj:j<sz:=by rw[<-g2];exact(List.getElem?_eq_some_iff.1 hu).1
 rw[Nat.add_assoc];exact hc _ _ (by rw[g3 j hj];exact hu)
def bL(w:World)(g:Nat)(t:TypeId)(cs:Array Value):Prop:=w.heap[g]?=some (.cells cs t (0,0))
section
variable {w w':World} {g:Nat} {t:TypeId} {cs:Array Value}
theorem bL.lt(h:bL w g t cs):g<w.heap.size:=by
 rcases Nat.lt_or_ge g w.heap.size with bW|Nc
 ·exact bW
 ·unfold bL at h;rw[Array.getElem?_eq_none Nc]at h;cases h
theorem bL.cell(h:bL w g t cs)(i:Nat):w.cell? ⟨g,i,none⟩=cs[i]?:=cell_of_row w g i cs t (0,0) h
theorem bL.frozen(h:bL w g t cs)(i:Nat):w.frozen? ⟨g,i,none⟩=false:=by
 unfold bL at h;simp[World.frozen?,h]
theorem bL.new(w:World)(t:TypeId)(cs:Array Value):bL (w.alloc (.cells cs t)) w.heap.size t cs:=heap_alloc_new w _
theorem bL.drewN(h:bL w g t cs)(n:Nat):bL (w.drewN n) g t cs:=h
theorem bL.alloc(h:bL w g t cs)(o:Obj):bL (w.alloc o) g t cs:=(Below.heap_alloc w o g h.lt).trans h
theorem bL.cL(h:bL w g t cs)(i:Nat)(u:Value):bL (w.setCell ⟨g,i,none⟩ u) g t (cs.setIfInBounds i u):=by
 unfold bL at h|-;simp[World.setCell,Array.getElem?_modify,h]
theorem bL.gf(h:bL w g t cs){p:Addr}(hp:g≠p.block)(u:Value):bL (w.setCell p u) g t cs:=(Below.heap_setCell w p u g hp).trans h
theorem bL.below{B:Nat}(h:bL w g t cs)(hb:Below B w w')(hg:g<B):bL w' g t cs:=(hb.block g hg).trans h
theorem bL.grown{row:Option Nat}(h:bL w g t cs)(hb:w.grownBy w' row)(hg:some g≠row):bL w' g t cs:=(hb.block g h.lt hg).trans h
end
theorem bR(w:World)(row:Option Nat):w.grownBy w row:=World.grownBy.refl w row
theorem dF{a w:World}{row:Option Nat}(h:a.grownBy w row)(n:Nat):a.grownBy (w.drewN n) row:=⟨h.os,h.tape,h.output,h.size,h.block⟩
theorem bU{a b c:World}{row:Option Nat}(h:a.grownBy b row)(k:b.grownBy c row):a.grownBy c row:=
 ⟨k.os.trans h.os,k.tape.trans h.tape,k.output.trans h.output,Nat.le_trans h.size k.size,fun i hi db=>(k.block i (Nat.lt_of_lt_of_le hi h.size) db).trans (h.block i hi db)⟩
theorem bF{a w:World}{row:Option Nat}(h:a.grownBy w row){p:Addr}(hp:some p.block=row\/a.heap.size<=p.block)(u:Value):a.grownBy (w.setCell p u) row:=
 ⟨h.os,h.tape,h.output,by simpa[World.setCell]using h.size,fun i hi db=>(Below.heap_setCell w p u i (by rintro rfl;exact hp.elim (fun e=>db e) (fun e=>by omega))).trans (h.block i hi db)⟩
theorem fX{a w:World}{row:Option Nat}(h:a.grownBy w row)(o:Obj):a.grownBy (w.alloc o) row:=
 ⟨h.os,h.tape,h.output,Nat.le_trans h.size (by simp),fun i hi db=>(Below.heap_alloc w o i (Nat.lt_of_lt_of_le hi h.size)).trans (h.block i hi db)⟩
theorem kI{a w w':World}{row:Option Nat}(h:a.grownBy w row)(hb:Below w.heap.size w w'):a.grownBy w' row:=
 ⟨hb.os.trans h.os,hb.tape.trans h.tape,hb.output.trans h.output,Nat.le_trans h.size hb.size,fun i hi db=>(hb.block i (Nat.lt_of_lt_of_le hi h.size)).trans (h.block i hi db)⟩
theorem dR{a w w':World}{row ac9:Option Nat}(h:a.grownBy w row)(hg:w.grownBy w' ac9)(hr:∀k,ac9=some k->row=some k\/a.heap.size<=k):a.grownBy w' row:=
 ⟨hg.os.trans h.os,hg.tape.trans h.tape,hg.output.trans h.output,Nat.le_trans h.size hg.size,fun i hi db=>
  (hg.block i (Nat.lt_of_lt_of_le hi h.size) (fun e=>(hr i e.symm).elim (fun h1=>db h1.symm) (fun h1=>by omega))).trans (h.block i hi db)⟩
theorem bN{B:Nat}{w w':World}{row:Option Nat}(h:w.grownBy w' row)(hB:B<=w.heap.size)(hr:∀k,row=some k->B<=k):Below B w w':=
 ⟨h.os,h.tape,h.output,h.size,fun k hk=>h.block k (by omega) (fun e=>by have:=hr k e.symm;omega)⟩
theorem eR{w w':World}(h:Below w.heap.size w w')(row:Option Nat):w.grownBy w' row:=⟨h.os,h.tape,h.output,h.size,fun i hi _=>h.block i hi⟩
def kJ(P:Program)(t e:TypeId)(size bytes:Nat):Prop:=
 ∃(i:TypeInfo) (z:Value),P.underlying t=some (.slice e)/\P.info? e=some i/\i.zero=some z/\i.size=size/\i.bytes=bytes/\z.cells.size=size/\0<size
def b8(w:World)(base:Nat)(e:TypeId)(sz:Nat)(G:Nat->Prop)(v:Value)(l:List GV):Prop:=
 ∃xs,w.ownsRow base e sz v l.length xs/\fW w (fun k=>G k/\some k≠v.ownBlock) sz l xs
theorem b8.nil(w:World)(base:Nat)(e:TypeId)(sz:Nat)(G:Nat->Prop):b8 w base e sz G (.slice none 0 0) []:=
 ⟨[],World.ownsRow_nil w base e sz,by simp[fW]⟩
theorem b8.lt{w:World}{base:Nat}{e:TypeId}{sz:Nat}{G:Nat->Prop}{v:Value}{l:List GV}(h:b8 w base e sz G v l):
 ∀k,v.ownBlock=some k->base<=k/\k<w.heap.size:=by
 obtain⟨xs,h1,_⟩:=h;exact h1.lt
theorem b8.kept{w w':World}{base:Nat}{e:TypeId}{sz:Nat}{G:Nat->Prop}{v:Value}{l:List GV}{row:Option Nat}(h:b8 w base e sz G v l)
 (hg:w.grownBy w' row) (db:v.ownBlock=none\/v.ownBlock≠row) (hr:∀k,G k->some k≠row):b8 w' base e sz G v l:=by
 obtain⟨xs,h1,h2⟩:=h;exact⟨xs,h1.kept hg db,fW.mono (fun _ h=>h) (fun k hk bW=>hg.block k bW (hr k hk.1)) sz l xs h2⟩
theorem b8.below{w w':World}{base:Nat}{e:TypeId}{sz:Nat}{G:Nat->Prop}{v:Value}{l:List GV}(h:b8 w base e sz G v l)
 (hb:Below w.heap.size w w'):b8 w' base e sz G v l:=
 h.kept (row:=none) ⟨hb.os,hb.tape,hb.output,hb.size,fun k hk _=>hb.block k hk⟩ (by cases v.ownBlock<;>simp) (fun k _=>by simp)
theorem b8.dY{w:World}{base XW:Nat}{e:TypeId}{sz:Nat}{G G':Nat->Prop}{v:Value}{l:List GV}(h:b8 w base e sz G v l)
 (hb:XW<=base) (hG:∀k,G k->G' k):b8 w XW e sz G' v l:=by
 obtain⟨xs,⟨h1,h2⟩,h3⟩:=h;refine⟨xs,⟨h1,?_⟩,h3.dY fun k hk=>⟨hG k hk.1,hk.2⟩⟩;rcases h2 with h2|⟨g,cap,S7,hv,hg,r⟩
 ·exact .inl h2
 ·exact .inr ⟨g,cap,S7,hv,by omega,r⟩
theorem b8.form{w:World}{base:Nat}{e:TypeId}{sz:Nat}{G:Nat->Prop}{v:Value}{l:List GV}(h:b8 w base e sz G v l):∃A c,v=.slice A l.length c:=by
 obtain⟨xs,h1,_⟩:=h;rcases h1.2 with⟨rfl,h0⟩|⟨g,cap,S7,rfl,_⟩
 ·exact⟨none,0,by rw[h0]⟩
 ·exact⟨_,_,rfl⟩
theorem b8.gr{w:World}{base:Nat}{e:TypeId}{sz:Nat}{G F:Nat->Prop}{v:Value}{l:List GV}(h:b8 w base e sz G v l)
 (hG:∀k,G k->F k) (hv:∀k,v.ownBlock=some k->F k):GR w F (.row sz l) [v]:=by
 obtain⟨xs,h1,h3⟩:=h;have hl:=h3.length;rcases h1.2 with⟨rfl,h0⟩|⟨g,cap,S7,rfl,hg,hh,hn,hm,hc,ht⟩
 ·simp only[GR];exact⟨none,0,xs,by rw[h0],by omega,by simp[maxLen],hl,fun db=>absurd (List.eq_nil_of_length_eq_zero (by rw[hl,h0,Nat.zero_mul])) db,h3.dY fun k hk=>hG k hk.1⟩
 ·simp only[GR];refine⟨some ⟨g,0,none⟩,cap,xs,rfl,hn,hm,hl,fun _=>⟨g,0,rfl,hv g rfl,fun j u hu=>?_⟩,h3.dY fun k hk=>hG k hk.1⟩;have Ff:(⟨g,0,none⟩:Addr).add j=⟨g,0+j,none⟩:=by unfold Addr.add;split<;>simp_all
  rw[<-Ff];exact World.ownsRow.cells h1 (g:=g) rfl j u hu
section
variable {P:Program} (w:World)
theorem yg(base:Nat)(t ty e:TypeId)(i:TypeInfo)(size:Nat)(ht:P.underlying t=some (.slice e))(hi:P.info? e=some i)
 (v:Value) (n:Nat) (xs:List Value) (bZ:w.ownsRow base e size v n xs) (c:Nat):(Builtin.append_ #[t,t] ty #[v,.slice none 0 c]).run P w=.ok v w:=by
 rcases bZ.2 with⟨rfl,rfl⟩|⟨g,cap,S7,rfl,_,_,hnc,_⟩
 ·simp[Builtin.append_,run_underlying ht,sizeOf,typeInfo,hi,Builtin.lenOf,Builtin.firstCells]
 ·simp[Builtin.append_,run_underlying ht,sizeOf,typeInfo,hi,Builtin.lenOf,Builtin.firstCells,hnc,storeCells]
mutual
theorem GR.one{w:World}{F:Nat->Prop}:∀(x:GV) (cs:List Value),GR w F x cs->∀u∈cs,u.oneCell'=true
 |.int _,_,h=>by simp only[GR]at h;subst h;simp[Value.oneCell']
 |.str _,_,h=>by simp only[GR]at h;subst h;simp[Value.oneCell']
 |.bool _,_,h=>by simp only[GR]at h;subst h;simp[Value.oneCell']
 |.u8 _,_,h=>by simp only[GR]at h;subst h;simp[Value.oneCell']
 |.agg fs,cs,h=>by
  simp only[GR]at h;exact yf.one fs cs h
 |.row sz l,cs,h=>by
  simp only[GR]at h;obtain⟨A,c,xs,rfl,_⟩:=h;simp[Value.oneCell']
theorem yf.one{w:World}{F:Nat->Prop}:∀(l:List GV) (cs:List Value),yf w F l cs->∀u∈cs,u.oneCell'=true
 |[],_,h=>by simp only[yf]at h;subst h;simp
 |x::l,cs,h=>by
  simp only[yf]at h;obtain⟨a,b,rfl,h2,h3⟩:=h;intro u hu;rcases List.mem_append.1 hu with hu|hu
  ·exact GR.one x a h2 u hu
  ·exact yf.one l b h3 u hu
theorem fW.one{w:World}{F:Nat->Prop}(sz:Nat):∀(l:List GV) (cs:List Value),fW w F sz l cs->∀u∈cs,u.oneCell'=true
 |[],_,h=>by simp only[fW]at h;subst h;simp
 |x::l,cs,h=>by
  simp only[fW]at h;obtain⟨a,b,rfl,_,h2,h3⟩:=h;intro u hu;rcases List.mem_append.1 hu with hu|hu
  ·exact GR.one x a h2 u hu
  ·exact fW.one sz l b h3 u hu
end
theorem Ig(base:Nat)(t ty e:TypeId)(size bytes:Nat)(hT:kJ P t e size bytes)(G:Nat->Prop)(v:Value)(l:List GV)(bZ:b8 w base e size G v l)
 (A:Option Addr) (c:Nat) (m:List GV) (news:List Value) (hx:mR w (fun _=>True) A news) (hr:fW w (fun k=>G k/\some k≠v.ownBlock) size m news)
 (Fg:l.length+m.length<=maxLen) (mS:(l.length+m.length)*bytes<=140737488355328) (eo:base<=w.heap.size):
 ∃v' w',(Builtin.append_ #[t,t] ty #[v,.slice A m.length c]).run P w=.ok v' w'/\b8 w' base e size G v' (l++m)/\w.grownBy w' v.ownBlock/\
  (v'.ownBlock=v.ownBlock\/v'.ownBlock=some w.heap.size):=by
 obtain⟨i,z,ht,hi,hz,S8,hby,hzs,lQ⟩:=hT;obtain⟨xs,bZ,h3⟩:=bZ;have hl:=hr.length;have fin:∀v' w',w'.ownsRow base e size v' (l.length+m.length) (xs++news)->w.grownBy w' v.ownBlock->(v'.ownBlock=v.ownBlock\/v'.ownBlock=some w.heap.size)->
  b8 w' base e size G v' (l++m):=by
  intro v' w' ho hg hv;refine⟨xs++news,by rw[List.length_append];exact ho,?_⟩;have kF:=fW.append hr h3;have key:∀(q:List GV) (ys:List Value),fW w (fun k=>G k/\some k≠v.ownBlock) size q ys->fW w (fun k=>(G k/\some k≠v.ownBlock)/\k<w.heap.size) size q ys:=by
   intro q ys hq;exact fW.du size q ys hq
  refine fW.mono (fun k hk=>?_) (fun k hk bW=>?_) size _ _ (key _ _ kF)
  ·refine⟨hk.1.1,?_⟩;rcases hv with hv|hv<;>rw[hv]
   ·exact hk.1.2
   ·have:=hk.2;simp;omega
  ·exact hg.block k bW hk.1.2
 rcases A with _|ad
 ·have hm:m=[]:=by
   have hn:news=[]:=by
    rcases Classical.em (news=[])with h|h
    ·exact h
    ·obtain⟨b,o,h,_⟩:=hx h;cases h
   subst hn;have h0:m.length*size=0:=by rw[<-hl];rfl
   rcases Nat.mul_eq_zero.1 h0 with h|h
   ·exact List.eq_nil_of_length_eq_zero h
   ·omega
  subst hm;have hn:news=[]:=List.eq_nil_of_length_eq_zero (by simpa using hl);subst hn;exact⟨v,w,yg w base t ty e i size ht hi v _ xs bZ c,fin v w (by simpa using bZ) (World.grownBy.refl w _) (.inl rfl),World.grownBy.refl w _,.inl rfl⟩
 ·have Zi:∀j u,news[j]?=some u->w.cell? (ad.add j)=some u:=by
   intro j u hu;obtain⟨b,o,h,_,hc⟩:=hx (by rintro rfl;simp at hu);injection h with h
   subst h;have Ff:(⟨b,o,none⟩:Addr).add j=⟨b,o+j,none⟩:=by unfold Addr.add;split<;>simp_all
   rw[Ff];exact hc j u hu
  obtain⟨v',w',qp,h2,hg,_,h5⟩:=run_append_own_at (P:=P) w base t ty e i z size bytes ht hi hz S8 hby hzs lQ v l.length xs bZ ad m.length c news hl Zi (fW.one size m news hr) Fg mS eo;exact⟨v',w',qp,fin v' w' h2 hg h5,hg,h5⟩
theorem wp_append_R{o:Oper}{a:Act}{K:Act->World->Prop}{Q:Exit->Act->World->Prop}(s x:Operand)(t:TypeId)
 (ho:o.op=.call {callee:=.builtin .append,args:=#[s,x],argTypes:=#[t,t]})
 (base:Nat) (e:TypeId) (size bytes:Nat) (hT:kJ P t e size bytes) (G:Nat->Prop) (v:Value) (l:List GV) (hs:a.eval s=v) (bZ:b8 w base e size G v l)
 (A:Option Addr) (c:Nat) (m:List GV) (news:List Value) (hv:a.eval x=.slice A m.length c) (hx:mR w (fun _=>True) A news) (hr:fW w (fun k=>G k/\some k≠v.ownBlock) size m news)
 (Fg:l.length+m.length<=maxLen) (mS:(l.length+m.length)*bytes<=140737488355328) (eo:base<=w.heap.size)
 (h:∀v' w',b8 w' base e size G v' (l++m)->w.grownBy w' v.ownBlock->(v'.ownBlock=v.ownBlock\/v'.ownBlock=some w.heap.size)->K (a.put o.dst v') w'):o.wp P a w K Q:=by
 obtain⟨v',w',qp,h2,h3,h4⟩:=Ig (P:=P) w base t o.type e size bytes hT G v l bZ A c m news hx hr Fg mS eo;unfold Oper.wp execOp;simp only[ho,resolve,invoke,builtin,Sem.run_bind,Sem.run_pure,Result.andThen_ok,List.map_toArray,List.map_cons,List.map_nil,hs,hv,qp];exact h v' w' h2 h3 h4
theorem B3{ops:Array Oper}{rest:List Oper}{o:Oper}{a:Act}{Q:Exit->Act->World->Prop}(Pw:o.guard=none)(s x:Operand)(t:TypeId)
 (ho:o.op=.call {callee:=.builtin .append,args:=#[s,x],argTypes:=#[t,t]})
 (base:Nat) (e:TypeId) (size bytes:Nat) (hT:kJ P t e size bytes) (G:Nat->Prop) (v:Value) (l:List GV) (hs:a.eval s=v) (bZ:b8 w base e size G v l)
 (A:Option Addr) (c:Nat) (m:List GV) (news:List Value) (hv:a.eval x=.slice A m.length c) (hx:mR w (fun _=>True) A news) (hr:fW w (fun k=>G k/\some k≠v.ownBlock) size m news)
 (Fg:l.length+m.length<=maxLen) (mS:(l.length+m.length)*bytes<=140737488355328) (eo:base<=w.heap.size)
 (h:∀v' w',b8 w' base e size G v' (l++m)->w.grownBy w' v.ownBlock->(v'.ownBlock=v.ownBlock\/v'.ownBlock=some w.heap.size)->wpList P ops Q rest (a.put o.dst v') w'):wpList P ops Q (o::rest) a w:=
 wpList_plain Pw fun _ hK=>wp_append_R w s x t ho base e size bytes hT G v l hs bZ A c m news hv hx hr Fg mS eo fun v' w' h2 h3 h4=>hK _ _ (h v' w' h2 h3 h4)
end
theorem gX{P:Program}{w:World}{ops:Array Oper}{rest:List Oper}{o:Oper}{a:Act}{Q:Exit->Act->World->Prop}(Pw:o.guard=none)(s x:Operand)(t:TypeId)
 (ho:o.op=.call {callee:=.builtin .append,args:=#[s,x],argTypes:=#[t,t]})
 {base:Nat} {e:TypeId} {size bytes:Nat} (hT:kJ P t e size bytes) {G:Nat->Prop} {v:Value} {l:List GV} (hs:a.eval s=v) (bZ:b8 w base e size G v l)
 {A:Option Addr} {c n:Nat} {m:List GV} {news:List Value} (hn:n=m.length) (hv:a.eval x=.slice A n c) (hx:mR w (fun _=>True) A news) (hr:fW w (fun k=>G k/\some k≠v.ownBlock) size m news)
 (Fg:l.length+m.length<=maxLen) (mS:(l.length+m.length)*bytes<=140737488355328) (eo:base<=w.heap.size) {k:Nat} (hk:k=(l++m).length)
 (h:∀A' c' w',b8 w' base e size G (.slice A' k c') (l++m)->w.grownBy w' v.ownBlock->((Value.slice A' k c').ownBlock=v.ownBlock\/(Value.slice A' k c').ownBlock=some w.heap.size)->
  wpList P ops Q rest (a.put o.dst (.slice A' k c')) w'):wpList P ops Q (o::rest) a w:=by
 subst hn;refine B3 w Pw s x t ho base e size bytes hT G v l hs bZ A c m news hv hx hr Fg mS eo fun v' w' h1 h2 h3=>?_;obtain⟨A',c',rfl⟩:=h1.form;subst hk;exact h A' c' w' h1 h2 h3
theorem qN{P:Program}{w:World}{ops:Array Oper}{o:Oper}{a:Act}{K:Act->World->Prop}{Q:Exit->Act->World->Prop}{E:Prop}(Pw:o.guard=none)(s x:Operand)(t:TypeId)
 (ho:o.op=.call {callee:=.builtin .append,args:=#[s,x],argTypes:=#[t,t]})
 {base:Nat} {e:TypeId} {size bytes:Nat} (hT:kJ P t e size bytes) {G:Nat->Prop} {v:Value} {l:List GV} (hs:a.eval s=v) (bZ:b8 w base e size G v l)
 {A:Option Addr} {c n:Nat} {m:List GV} {news:List Value} (hn:n=m.length) (hv:a.eval x=.slice A n c) (hx:mR w (fun _=>True) A news) (hr:fW w (fun k=>G k/\some k≠v.ownBlock) size m news)
 (Fg:l.length+m.length<=maxLen) (mS:(l.length+m.length)*bytes<=140737488355328) (eo:base<=w.heap.size) {k:Nat} (hk:k=(l++m).length)
 (h:∀A' c' w',b8 w' base e size G (.slice A' k c') (l++m)->w.grownBy w' v.ownBlock->((Value.slice A' k c').ownBlock=v.ownBlock\/(Value.slice A' k c').ownBlock=some w.heap.size)->
  K (a.put o.dst (.slice A' k c')) w'):if Region.wanted o (yielded ops a.tmps)=true then Oper.wp P o a w K Q else E:=by
 have hw:Region.wanted o (yielded ops a.tmps)=true:=by simp[Region.wanted,Pw]
 rw[if_pos hw];subst hn;refine wp_append_R w s x t ho base e size bytes hT G v l hs bZ A c m news hv hx hr Fg mS eo fun v' w' h1 h2 h3=>?_;obtain⟨A',c',rfl⟩:=h1.form;subst hk;exact h A' c' w' h1 h2 h3
theorem pz{w:World}{g:Nat}{t:TypeId}{cs:List Value}(h:bL w g t cs.toArray):mR w (fun _=>True) (some ⟨g,0,none⟩) cs:=
 fun _=>⟨g,0,rfl,trivial,fun j u hu=>by rw[Nat.zero_add,h.cell];simpa using hu⟩
theorem lp{w:World}{F:Nat->Prop}{sz:Nat}{x:GV}{cs:List Value}(h:GR w F x cs)(hl:cs.length=sz):fW w F sz [x] cs:=
 gF.2 ⟨cs,[],by simp,hl,h,jt.2 rfl⟩
theorem cS{w:World}{F:Nat->Prop}{sz:Nat}:GR w F (.row sz []) [.slice none 0 0]:=
 jR.2 ⟨none,0,[],rfl,Nat.le_refl _,by simp[maxLen],by simp,fun h=>absurd rfl h,jt.2 rfl⟩
theorem ss{w:World}{F:Nat->Prop}{g sz:Nat}{t:TypeId}{x:GV}{cs:List Value}(h:bL w g t cs.toArray)(hg:F g)(hx:GR w F x cs)(hl:cs.length=sz):
 GR w F (.row sz [x]) [.slice (some ⟨g,0,none⟩) 1 1]:=
 jR.2 ⟨some ⟨g,0,none⟩,1,cs,rfl,Nat.le_refl _,by simp[maxLen],by simpa using hl,fun _=>⟨g,0,rfl,hg,fun j u hu=>by rw[Nat.zero_add,h.cell];simpa using hu⟩,lp hx hl⟩
section
variable {w:World} {g:Nat} {t:TypeId} {cs:Array Value}
theorem nw(h:bL w g t cs):w.cell? ⟨g,0,none⟩=cs[0]?/\w.cell? ⟨g,1,none⟩=cs[1]?/\w.cell? ⟨g,2,none⟩=cs[2]?:=⟨h.cell 0,h.cell 1,h.cell 2⟩
theorem VE(h:bL w g t cs):w.frozen? ⟨g,0,none⟩=false/\w.frozen? ⟨g,1,none⟩=false/\w.frozen? ⟨g,2,none⟩=false:=⟨h.frozen 0,h.frozen 1,h.frozen 2⟩
theorem lG(h:bL w g t cs):w.cell? ⟨g,0,none⟩=cs[0]?/\w.cell? ⟨g,1,none⟩=cs[1]?/\w.cell? ⟨g,2,none⟩=cs[2]?/\w.cell? ⟨g,3,none⟩=cs[3]?:=⟨h.cell 0,h.cell 1,h.cell 2,h.cell 3⟩
theorem qm(h:bL w g t cs):w.frozen? ⟨g,0,none⟩=false/\w.frozen? ⟨g,1,none⟩=false/\w.frozen? ⟨g,2,none⟩=false/\w.frozen? ⟨g,3,none⟩=false:=⟨h.frozen 0,h.frozen 1,h.frozen 2,h.frozen 3⟩
theorem kK(h:bL w g t cs):w.cell? ⟨g,0,none⟩=cs[0]?/\w.cell? ⟨g,1,none⟩=cs[1]?/\w.cell? ⟨g,2,none⟩=cs[2]?/\w.cell? ⟨g,3,none⟩=cs[3]?/\w.cell? ⟨g,4,none⟩=cs[4]?:=⟨h.cell 0,h.cell 1,h.cell 2,h.cell 3,h.cell 4⟩
theorem xV(h:bL w g t cs):w.frozen? ⟨g,0,none⟩=false/\w.frozen? ⟨g,1,none⟩=false/\w.frozen? ⟨g,2,none⟩=false/\w.frozen? ⟨g,3,none⟩=false/\w.frozen? ⟨g,4,none⟩=false:=⟨h.frozen 0,h.frozen 1,h.frozen 2,h.frozen 3,h.frozen 4⟩
theorem nB(h:bL w g t cs):w.cell? ⟨g,0,none⟩=cs[0]?/\w.cell? ⟨g,1,none⟩=cs[1]?/\w.cell? ⟨g,2,none⟩=cs[2]?/\w.cell? ⟨g,3,none⟩=cs[3]?/\w.cell? ⟨g,4,none⟩=cs[4]?/\w.cell? ⟨g,5,none⟩=cs[5]?:=⟨h.cell 0,h.cell 1,h.cell 2,h.cell 3,h.cell 4,h.cell 5⟩
theorem Nd(h:bL w g t cs):w.frozen? ⟨g,0,none⟩=false/\w.frozen? ⟨g,1,none⟩=false/\w.frozen? ⟨g,2,none⟩=false/\w.frozen? ⟨g,3,none⟩=false/\w.frozen? ⟨g,4,none⟩=false/\w.frozen? ⟨g,5,none⟩=false:=⟨h.frozen 0,h.frozen 1,h.frozen 2,h.frozen 3,h.frozen 4,h.frozen 5⟩
theorem ph(h:bL w g t cs):w.cell? ⟨g,0,none⟩=cs[0]?/\w.cell? ⟨g,1,none⟩=cs[1]?/\w.cell? ⟨g,2,none⟩=cs[2]?/\w.cell? ⟨g,3,none⟩=cs[3]?/\w.cell? ⟨g,4,none⟩=cs[4]?/\w.cell? ⟨g,5,none⟩=cs[5]?/\w.cell? ⟨g,6,none⟩=cs[6]?:=⟨h.cell 0,h.cell 1,h.cell 2,h.cell 3,h.cell 4,h.cell 5,h.cell 6⟩
theorem zE(h:bL w g t cs):w.frozen? ⟨g,0,none⟩=false/\w.frozen? ⟨g,1,none⟩=false/\w.frozen? ⟨g,2,none⟩=false/\w.frozen? ⟨g,3,none⟩=false/\w.frozen? ⟨g,4,none⟩=false/\w.frozen? ⟨g,5,none⟩=false/\w.frozen? ⟨g,6,none⟩=false:=⟨h.frozen 0,h.frozen 1,h.frozen 2,h.frozen 3,h.frozen 4,h.frozen 5,h.frozen 6⟩
theorem bc8(h:bL w g t cs):w.cell? ⟨g,0,none⟩=cs[0]?/\w.cell? ⟨g,1,none⟩=cs[1]?/\w.cell? ⟨g,2,none⟩=cs[2]?/\w.cell? ⟨g,3,none⟩=cs[3]?/\w.cell? ⟨g,4,none⟩=cs[4]?/\w.cell? ⟨g,5,none⟩=cs[5]?/\w.cell? ⟨g,6,none⟩=cs[6]?/\w.cell? ⟨g,7,none⟩=cs[7]?:=⟨h.cell 0,h.cell 1,h.cell 2,h.cell 3,h.cell 4,h.cell 5,h.cell 6,h.cell 7⟩
theorem bz8(h:bL w g t cs):w.frozen? ⟨g,0,none⟩=false/\w.frozen? ⟨g,1,none⟩=false/\w.frozen? ⟨g,2,none⟩=false/\w.frozen? ⟨g,3,none⟩=false/\w.frozen? ⟨g,4,none⟩=false/\w.frozen? ⟨g,5,none⟩=false/\w.frozen? ⟨g,6,none⟩=false/\w.frozen? ⟨g,7,none⟩=false:=⟨h.frozen 0,h.frozen 1,h.frozen 2,h.frozen 3,h.frozen 4,h.frozen 5,h.frozen 6,h.frozen 7⟩
theorem zM(h:bL w g t cs):w.cell? ⟨g,0,none⟩=cs[0]?/\w.cell? ⟨g,1,none⟩=cs[1]?/\w.cell? ⟨g,2,none⟩=cs[2]?/\w.cell? ⟨g,3,none⟩=cs[3]?/\w.cell? ⟨g,4,none⟩=cs[4]?/\w.cell? ⟨g,5,none⟩=cs[5]?/\w.cell? ⟨g,6,none⟩=cs[6]?/\w.cell? ⟨g,7,none⟩=cs[7]?/\w.cell? ⟨g,8,none⟩=cs[8]?:=⟨h.cell 0,h.cell 1,h.cell 2,h.cell 3,h.cell 4,h.cell 5,h.cell 6,h.cell 7,h.cell 8⟩
theorem Zj(h:bL w g t cs):w.frozen? ⟨g,0,none⟩=false/\w.frozen? ⟨g,1,none⟩=false/\w.frozen? ⟨g,2,none⟩=false/\w.frozen? ⟨g,3,none⟩=false/\w.frozen? ⟨g,4,none⟩=false/\w.frozen? ⟨g,5,none⟩=false/\w.frozen? ⟨g,6,none⟩=false/\w.frozen? ⟨g,7,none⟩=false/\w.frozen? ⟨g,8,none⟩=false:=⟨h.frozen 0,h.frozen 1,h.frozen 2,h.frozen 3,h.frozen 4,h.frozen 5,h.frozen 6,h.frozen 7,h.frozen 8⟩
theorem cU(w:World)(x:Obj):Below w.heap.size w (w.alloc x):=(Below.refl _ _).alloc (Nat.le_refl _) _
theorem dv(n:Nat):n<=n:=Nat.le_refl n
end
theorem aa:type_of% @if_neg:=@if_neg
theorem ae:type_of% @if_pos:=@if_pos
theorem af:type_of% @List.length_append:=@List.length_append
theorem ag:type_of% @bodyPost_ret:=@bodyPost_ret
theorem ah:type_of% @List.length_map:=@List.length_map
theorem ai:type_of% @beq_eq_false_iff_ne:=@beq_eq_false_iff_ne
theorem aj:type_of% @List.length_drop:=@List.length_drop
theorem ak:type_of% @List.length_cons:=@List.length_cons
theorem aq:type_of% @World.block_lt_of_cell?:=@World.block_lt_of_cell?
theorem ar:type_of% @Option.some.inj:=@Option.some.inj
theorem au:type_of% @Nat.le_trans:=@Nat.le_trans
theorem ax:type_of% @Nat.zero_le:=@Nat.zero_le
theorem ay:type_of% @List.length_take:=@List.length_take
theorem aA:type_of% @ByteArray.size_extract:=@ByteArray.size_extract
theorem aB:type_of% @List.getElem?_eq_getElem:=@List.getElem?_eq_getElem
theorem aC:type_of% @List.take_succ_eq_append_getElem:=@List.take_succ_eq_append_getElem
theorem aD:type_of% @List.length_nil:=@List.length_nil
theorem aE:type_of% @List.drop_eq_getElem_cons:=@List.drop_eq_getElem_cons
theorem aF:type_of% @Below.refl:=@Below.refl
theorem aG:type_of% @Bool.and_eq_true:=@Bool.and_eq_true
theorem aH:type_of% @decide_eq_true_eq:=@decide_eq_true_eq
theorem aI:type_of% @IntWalk.i64_in:=@IntWalk.i64_in
theorem aJ:type_of% @wpAnyH_done:=@wpAnyH_done
theorem aK:type_of% @List.map_append:=@List.map_append
theorem aL:type_of% @wp_region_held:=@wp_region_held
theorem aM:type_of% @List.take_length:=@List.take_length
theorem aN:type_of% @List.append_assoc:=@List.append_assoc
theorem aO:type_of% @List.take_of_length_le:=@List.take_of_length_le
theorem aP:type_of% @ByteArray.size_append:=@ByteArray.size_append
theorem aQ:type_of% @bne_iff_ne:=@bne_iff_ne
theorem aR:type_of% @List.length_singleton:=@List.length_singleton
theorem aS:type_of% @decide_eq_true:=@decide_eq_true
theorem aT:type_of% @decide_eq_false:=@decide_eq_false
theorem aU:type_of% @List.cons_append:=@List.cons_append
theorem aV:type_of% @List.mem_singleton:=@List.mem_singleton
theorem aW:type_of% @World.cell?_of_block:=@World.cell?_of_block
def aX:=@absurd
theorem aY:type_of% @Nat.le_succ:=@Nat.le_succ
theorem aZ:type_of% @Bool.toNat_le:=@Bool.toNat_le
theorem bd:type_of% @List.eq_nil_of_length_eq_zero:=@List.eq_nil_of_length_eq_zero
theorem bf:type_of% @List.any_append:=@List.any_append
theorem bg:type_of% @Classical.byContradiction:=@Classical.byContradiction
theorem bj:type_of% @Bool.eq_iff_iff:=@Bool.eq_iff_iff
theorem bm:type_of% @List.drop_zero:=@List.drop_zero
theorem br:type_of% @Nat.lt_of_lt_of_le:=@Nat.lt_of_lt_of_le
theorem bt:type_of% @List.take_append_drop:=@List.take_append_drop
theorem bu:type_of% @List.drop_length:=@List.drop_length
theorem bx:type_of% @List.length_reverse:=@List.length_reverse
theorem bA:type_of% @Bool.or_eq_true:=@Bool.or_eq_true
theorem bB:type_of% @List.getElem?_append_left:=@List.getElem?_append_left
theorem bC:type_of% @wpAnyH_ready:=@wpAnyH_ready
section
variable {P:Program} {ops:Array Oper} {Q:Exit->Act->World->Prop} {md:Region.Mode} {S:World->Prop} {oi:Oper} {v:Value} {fuel:Nat} {listed:Array Bool} {a:Act} {w:World}
theorem dB(i:Nat)(hS:S w)(h:wpAnyH P md ops Q S fuel (listed.setIfInBounds i true) (a.put oi.dst v) w)(hi:ops[i]?=some oi:=by rfl)(hs:Region.noSelect ops=true:=by kernel_rfl)(hf:Region.free md ops listed i=true:=by kernel_rfl)
 (hr:(Region.ready md ops listed).contains i=true:=by kernel_rfl) (hQ:∀c a w,Q (.panic c) (a.put oi.dst v) w->Q (.panic c) a w:=by exact fun _ _ _ h=>h) (hw:Region.wanted oi (yielded ops a.tmps)=true:=by rfl)
 (hv:∀w,S w->(execOp a.eval oi).run P w=.ok (.value v) w:=by(intro w_ cY;go_simp;try with_reducible rfl)):wpAnyH P md ops Q S (fuel+1) listed a w:=wpAnyH_take hi hs hf hr hQ (.inl ⟨hw,hv⟩) hS h
theorem jw(i:Nat)(hS:S w)(h:wpAnyH P md ops Q S fuel (listed.setIfInBounds i true) (a.put oi.dst v) w)(hi:ops[i]?=some oi:=by rfl)(hs:Region.noSelect ops=true:=by kernel_rfl)(hf:Region.free md ops listed i=true:=by kernel_rfl)
 (hr:(Region.ready md ops listed).contains i=true:=by kernel_rfl) (hQ:∀c a w,Q (.panic c) (a.put oi.dst v) w->Q (.panic c) a w:=by exact fun _ _ _ h=>h) (hw:Region.wanted oi (yielded ops a.tmps)=true:=by rfl)
 (hv:∀w,S w->(execOp a.eval oi).run P w=.ok (.value v) w:=by(intro w_ cY;(repeat (obtain⟨_,cY⟩:=cY));go_simp;try with_reducible rfl)):wpAnyH P md ops Q S (fuel+1) listed a w:=wpAnyH_take hi hs hf hr hQ (.inl ⟨hw,hv⟩) hS h
theorem pJ(i:Nat)(hS:S w)(h:wpAnyH P md ops Q S fuel (listed.setIfInBounds i true) (a.put oi.dst v) w)(hi:ops[i]?=some oi:=by rfl)(hs:Region.noSelect ops=true:=by kernel_rfl)(hf:Region.free md ops listed i=true:=by kernel_rfl)
 (hr:(Region.ready md ops listed).contains i=true:=by kernel_rfl) (hQ:∀c a w,Q (.panic c) (a.put oi.dst v) w->Q (.panic c) a w:=by exact fun _ _ _ h=>h) (hw:Region.wanted oi (yielded ops a.tmps)=true:=by kernel_rfl)
 (hv:∀w,S w->(execOp a.eval oi).run P w=.ok (.value v) w:=by(intro w_ cY;go_simp;try with_reducible rfl)):wpAnyH P md ops Q S (fuel+1) listed a w:=wpAnyH_take hi hs hf hr hQ (.inl ⟨hw,hv⟩) hS h
theorem Na(i:Nat)(hS:S w)(h:wpAnyH P md ops Q S fuel (listed.setIfInBounds i true) (a.put oi.dst v) w)(hi:ops[i]?=some oi:=by rfl)(hs:Region.noSelect ops=true:=by kernel_rfl)(hf:Region.free md ops listed i=true:=by kernel_rfl)
 (hr:(Region.ready md ops listed).contains i=true:=by kernel_rfl) (hQ:∀c a w,Q (.panic c) (a.put oi.dst v) w->Q (.panic c) a w:=by exact fun _ _ _ h=>h) (hw:Region.wanted oi (yielded ops a.tmps)=true:=by kernel_rfl)
 (hv:∀w,S w->(execOp a.eval oi).run P w=.ok (.value v) w:=by(intro w_ cY;(repeat (obtain⟨_,cY⟩:=cY));go_simp;try with_reducible rfl)):wpAnyH P md ops Q S (fuel+1) listed a w:=wpAnyH_take hi hs hf hr hQ (.inl ⟨hw,hv⟩) hS h
theorem xe(i:Nat)(h:wpAny P md ops Q fuel (listed.setIfInBounds i true) (a.put oi.dst v) w)(hi:ops[i]?=some oi:=by rfl)(hs:Region.noSelect ops=true:=by kernel_rfl)(hf:Region.free md ops listed i=true:=by kernel_rfl)
 (hr:(Region.ready md ops listed).contains i=true:=by kernel_rfl) (hQ:∀c a w,Q (.panic c) (a.put oi.dst v) w->Q (.panic c) a w:=by exact fun _ _ _ h=>h) (hw:Region.wanted oi (yielded ops a.tmps)=true:=by rfl)
 (hv:∀w,(execOp a.eval oi).run P w=.ok (.value v) w:=by(intro w_;go_simp;try with_reducible rfl)):wpAny P md ops Q (fuel+1) listed a w:=wpAny_take hi hs hf hr hQ (.inl ⟨hw,hv⟩) h
theorem lo(i:Nat)(hS:S w)(h:wpAnyH P md ops Q S fuel (listed.setIfInBounds i true) (a.put oi.dst undef) w)(hi:ops[i]?=some oi:=by rfl)(hs:Region.noSelect ops=true:=by kernel_rfl)(hf:Region.free md ops listed i=true:=by kernel_rfl)
 (hr:(Region.ready md ops listed).contains i=true:=by kernel_rfl) (hQ:∀c a w,Q (.panic c) (a.put oi.dst undef) w->Q (.panic c) a w:=by exact fun _ _ _ h=>h) (hw:Region.wanted oi (yielded ops a.tmps)=false:=by kernel_rfl):
 wpAnyH P md ops Q S (fuel+1) listed a w:=wpAnyH_take hi hs hf hr hQ (.inr ⟨hw,rfl⟩) hS h
theorem mO(i:Nat)(v:Value)(hS:S w)(hv:∀w,S w->(execOp a.eval oi).run P w=.ok (.value v) w)(h:wpAnyH P md ops Q S fuel (listed.setIfInBounds i true) (a.put oi.dst v) w)(hi:ops[i]?=some oi:=by rfl)(hs:Region.noSelect ops=true:=by kernel_rfl)(hf:Region.free md ops listed i=true:=by kernel_rfl)
 (hr:(Region.ready md ops listed).contains i=true:=by kernel_rfl) (hQ:∀c a w,Q (.panic c) (a.put oi.dst v) w->Q (.panic c) a w:=by exact fun _ _ _ h=>h) (hw:Region.wanted oi (yielded ops a.tmps)=true:=by kernel_rfl):wpAnyH P md ops Q S (fuel+1) listed a w:=wpAnyH_take hi hs hf hr hQ (.inl ⟨hw,hv⟩) hS h
theorem fr(i:Nat){o:Oper}(h:∀K':Act->World->Prop,Shut (∀a w,S w->(S w->wpAnyH P md ops Q S fuel (listed.setIfInBounds i true) a w)->K' a w)->if Region.wanted o (yielded ops a.tmps)=true then Oper.wp P o a w K' Q else K' (a.put o.dst undef) w)
 (ho:ops[i]?=some o:=by rfl) (hr:Region.ready md ops listed=[i]:=by kernel_rfl):wpAnyH P md ops Q S (fuel+1) listed a w:=
 bC hr (by simp) (.cons ho h .nil)
end
end Go.Proofs.YtejafaaihodehaaGreatDoor
