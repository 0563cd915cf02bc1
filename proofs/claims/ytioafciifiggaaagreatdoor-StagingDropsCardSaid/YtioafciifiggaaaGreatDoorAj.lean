/- Staging: contracts of its functions (Aj). No condition but those named. -/
import Derived.Test.YtioafciifiggaaaGreatDoorAi
set_option linter.unusedVariables false
set_option linter.unusedSimpArgs false
namespace Go.Proofs.YtioafciifiggaaaGreatDoor
open Go.Proofs Go.AL
set_option maxRecDepth 100000
set_option maxHeartbeats 1000000
attribute [local irreducible] endA AW aops thenA blockA hold
def big8:List Int:=List.replicate 8 4096
def cycW(c:Cyc):List Int:=vint c.base++vint c.number++vint c.time++manyW vint c.pos++manyW wrtW c.writes
def zCyc:Cyc:=⟨0,0,0,[],[]⟩
def encE(c:Cyc):List Int×Int:=if cycE c big8=0 then(if 65536<(cycW c).length then([],5)else(cycW c,0))else([],cycE c big8)
def decG(x1 x2 x3:Int×List Int×Int)(p:List Int×List Int×Int)(w:List Wrt×List Int×Int):Cyc×Int:=
 if x1.2.2=0 then
  if x2.2.2=0 then
   if x3.2.2=0 then
    if p.2.2=0 then
     if w.2.2=0 then
      if w.2.1=[]then
       if cycE ⟨x1.1,x2.1,x3.1,p.1,w.1⟩ big8=0 then(⟨x1.1,x2.1,x3.1,p.1,w.1⟩,0)else(zCyc,cycE ⟨x1.1,x2.1,x3.1,p.1,w.1⟩ big8)
      else(zCyc,3)
     else(zCyc,w.2.2)
    else(zCyc,p.2.2)
   else(zCyc,x3.2.2)
  else(zCyc,x2.2.2)
 else(zCyc,x1.2.2)
def decE(b:List Int):Cyc×Int:=
 if 65536<b.length then(zCyc,5)
 else decG (intE b) (intE (intE b).2.1) (intE (intE (intE b).2.1).2.1) (manyE intE (intE (intE (intE b).2.1).2.1).2.1) (manyE wrtE (manyE intE (intE (intE (intE b).2.1).2.1).2.1).2.1)
end Go.Proofs.YtioafciifiggaaaGreatDoor
namespace Go.Proofs.YtioafciifiggaaaGreatDoor
open Go.Proofs Go.AL
set_option maxRecDepth 100000
set_option maxHeartbeats 1000000
attribute [local irreducible] endA AW aops thenA blockA hold
structure Prt where
 number:Int
 index:Int
 parts:Int
 sum:Int
 piece:List Int
def zPrt:Prt:=⟨0,0,0,0,[]⟩
def badP(n i p s:Int)(l:List Int):Prop:=n<1∨1073741824<n∨p≤i∨65536<p∨4294967295<s∨l=[]∨4096<l.length
instance (n i p s:Int)(l:List Int):Decidable (badP n i p s l):=by unfold badP;exact inferInstance
def parG(x1 x2 x3 x4:Int×List Int×Int):Prt×Int:=
 if x1.2.2=0 then
  if x2.2.2=0 then
   if x3.2.2=0 then
    if x4.2.2=0 then
     if badP x1.1 x2.1 x3.1 x4.1 x4.2.1 then(zPrt,3)else(⟨x1.1,x2.1,x3.1,x4.1,x4.2.1⟩,0)
    else(zPrt,x4.2.2)
   else(zPrt,x3.2.2)
  else(zPrt,x2.2.2)
 else(zPrt,x1.2.2)
def parE(b:List Int):Prt×Int:=parG (intE b) (intE (intE b).2.1) (intE (intE (intE b).2.1).2.1) (intE (intE (intE (intE b).2.1).2.1).2.1)
structure Asm where
 number:Int
 parts:Int
 sum:Int
 have_:List (List Int)
 seen:List Bool
def zAsm:Asm:=⟨0,0,0,[],[]⟩
def byteL(l:List Int):List AV:=[.snap (encL byteRow l)]
def encA(a:Asm):List AV:=[zV a.number,zV a.parts,zV a.sum,.snap (encL byteL a.have_),.snap (encL boolRow a.seen)]
def begE(b:List Int):Asm×Int:=
 if(parE b).2=0 then(⟨(parE b).1.number,(parE b).1.parts,(parE b).1.sum,(List.replicate (parE b).1.parts.toNat []).set (parE b).1.index.toNat (parE b).1.piece,(List.replicate (parE b).1.parts.toNat false).set (parE b).1.index.toNat true⟩,0)
 else(zAsm,(parE b).2)
def pieceOK(a:Asm)(i:Nat):Bool:=(decide (0<(a.have_.getD i []).length)==a.seen.getD i false)&&decide ((a.have_.getD i []).length≤4096)
def asmE(a:Asm):Int:=
 if a.number<1∨1073741824<a.number∨a.parts<1∨65536<a.parts∨a.sum<0∨4294967295<a.sum∨(a.have_.length:Int)≠a.parts∨(a.seen.length:Int)≠a.parts then 3
 else if(List.range a.have_.length).all (pieceOK a)=true then 0 else 3
def addE(a:Asm)(b:List Int):Asm×Int:=
 if asmE a=0 then
  if(parE b).2=0 then
   if(parE b).1.number=a.number then
    if(parE b).1.parts=a.parts∧(parE b).1.sum=a.sum then
     if a.seen.getD (parE b).1.index.toNat false=true∧a.have_.getD (parE b).1.index.toNat []≠(parE b).1.piece then(zAsm,22)
     else(⟨a.number,a.parts,a.sum,a.have_.set (parE b).1.index.toNat (parE b).1.piece,a.seen.set (parE b).1.index.toNat true⟩,0)
    else(zAsm,22)
   else(zAsm,7)
  else(zAsm,(parE b).2)
 else(zAsm,3)
def acyE(a:Asm):Cyc×Int:=
 if asmE a=0 then
  if a.seen.all id=true then
   if 65536<a.have_.flatten.length then(zCyc,5)
   else if crc a.have_.flatten=a.sum then
    if(decE a.have_.flatten).2=0 then
     if(decE a.have_.flatten).1.number=a.number then((decE a.have_.flatten).1,0)else(zCyc,22)
    else(zCyc,(decE a.have_.flatten).2)
   else(zCyc,9)
  else(zCyc,15)
 else(zCyc,3)
def parW(n i p s:Int)(l:List Int):List Int:=vint n++vint i++vint p++vint s++l
def pieceN(b:List Int)(most i:Nat):List Int:=(b.drop (i*most)).take most
def nParts(len most:Nat):Nat:=(len+most-1)/most
def splE(c:Cyc)(most:Int):List (List Int)×Int:=
 if(encE c).2=0 then
  if most<1∨4096<most then([],2)
  else((List.range (nParts (encE c).1.length most.toNat)).map fun(i:Nat)=>parW c.number (i:Int) ((nParts (encE c).1.length most.toNat:Nat):Int) (crc (encE c).1) (pieceN (encE c).1 most.toNat i),0)
 else([],(encE c).2)
end Go.Proofs.YtioafciifiggaaaGreatDoor
namespace Go.Proofs.YtioafciifiggaaaGreatDoor
open Go.Proofs Go.AL
set_option maxRecDepth 100000
set_option maxHeartbeats 1000000
attribute [local irreducible] endA AW aops thenA blockA hold
attribute [local irreducible] numG
theorem length_m(src:List Int)(hb:∀x∈src,ByteOK x)(hl:src.length≤100000)(id:Nat):MCall Tryz.prog 280 [.ptr id 0 0] id (curB src) (curO (lenE src)) (.tup [zV (intE src).1,zV (lenE src).2.2]) 200:=by
 refine mstart Tryz.func280 Tryz.ntmps280 ?_;intro N G hid hG0 hG;have c1:=number_m src hb hl id;obtain⟨⟨x,r,e⟩,hX⟩:∃X,intE src=X:=⟨_,rfl⟩;have hL:lenE src=if e=0 then(if 65536<x then(0,[],5)else(x,r,e))else(0,[],e):=by unfold lenE;rw[hX]
 rw[hX]at c1;rw[hX,hL];clear hX hL hb;unfold curO curB at*;simp only[]at*;by_cases g:e=0
 ·subst g
  rw[if_pos rfl]at c1;rw[if_pos rfl];by_cases g2:65536<x
  ·rw[if_pos g2,if_neg (by decide)]
   refine zgoM ?_;exact zfinM
  ·rw[if_neg g2,if_pos rfl]
   refine zgoM ?_;exact zfinM
 ·rw[if_neg g]at c1
  rw[if_neg g,if_neg g];refine zgoM ?_;exact zfinM
theorem pair_m(src:List Int)(hb:∀x∈src,ByteOK x)(hl:src.length≤100000)(id:Nat):MCall Tryz.prog 281 [.ptr id 0 0] id (curB src) (if(intE src).2.2=0 then curO (intE (intE src).2.1)else none) (.tup (if(intE src).2.2=0 then [zV (intE src).1,zV (intE (intE src).2.1).1,zV (intE (intE src).2.1).2.2]else [zV 0,zV 0,zV (intE src).2.2])) 300:=by
 refine mstart Tryz.func281 Tryz.ntmps281 ?_;intro N G hid hG0 hG;have c1:=number_m src hb hl id;have hle:=intE_ok hb;have c2:=number_m (intE src).2.1 hle.1 (by omega) id
 generalize intE (intE src).2.1=Y at*;generalize intE src=X at*;obtain⟨x,r,e⟩:=X;obtain⟨y,r2,e2⟩:=Y;clear hb hle;unfold curO curB at*;simp only[]at*;by_cases g:e=0
 ·subst g
  rw[if_pos rfl]at*;rw[if_pos rfl];by_cases g2:e2=0
  ·subst g2
   rw[if_pos rfl]at*;refine zgoM ?_;exact zfinM
  ·rw[if_neg g2]at*
   refine zgoM ?_;exact zfinM
 ·rw[if_neg g]at*
  rw[if_neg g];refine zgoM ?_;exact zfinM
theorem bytes_m(src:List Int)(n:Nat)(hn:n≤100000)(hl:src.length≤100000)(id:Nat):MCall Tryz.prog 304 [.ptr id 0 0,zV n] id (curB src) (if src.length<n then none else some (curB (src.drop n))) (.tup (if src.length<n then [.snap (encL byteRow []),zV 10]else [.snap (encL byteRow (src.take n)),zV 0])) 50:=by
 refine mstart Tryz.func304 Tryz.ntmps304 ?_;intro N G hid hG0 hG;unfold curB at*;by_cases g:src.length<n
 ·rw[if_pos g,if_pos g]
  refine zgoM ?_;exact zfinM
 ·rw[if_neg g,if_neg g]
  have e3:(src.drop n).take (src.length-n)=src.drop n:=List.take_of_length_le (by rw[List.length_drop];omega)
  refine zgoM ?_;exact zfinM
end Go.Proofs.YtioafciifiggaaaGreatDoor
namespace Go.Proofs.YtioafciifiggaaaGreatDoor
open Go.Proofs Go.AL
set_option maxRecDepth 100000
set_option maxHeartbeats 1000000
attribute [local irreducible] endA AW aops thenA blockA hold
attribute [local irreducible] numG
def oV1:Nat→Nat→AV
 |0,_=> .c (.slice none 0 0)
 |k+1,id=> .own id 0 (k+1)
def oT1(t:TypeId)(s:Nat)(rows:List (List AV)):Nat→Nat→List (Nat×Option Blk)
 |0,_=> []
 |k+1,id=> [(id,some (.cells t s rows true true))]
@[go_sem] theorem oV1_0(id:Nat):oV1 0 id= .c (.slice none 0 0):=rfl
@[go_sem] theorem oV1_s(k id:Nat):oV1 (k+1) id= .own id 0 (k+1):=rfl
@[go_sem] theorem oT1_0(t:TypeId)(s:Nat)(rows:List (List AV))(id:Nat):oT1 t s rows 0 id=[]:=rfl
@[go_sem] theorem oT1_s(t:TypeId)(s:Nat)(rows:List (List AV))(k id:Nat):oT1 t s rows (k+1) id=[(id,some (.cells t s rows true true))]:=rfl
theorem listI_m(src:List Int)(hb:∀x∈src,ByteOK x)(hl:src.length≤100000)(id:Nat):MCall Tryz.prog 244 [.ptr id 0 0,.fn (.func 212) [] []] id (curB src) (curO (manyE intE src)) (.tup [.snap (encL intRow (manyE intE src).1),zV (manyE intE src).2.2]) 10000000:=by
 refine mstart Tryz.func244 Tryz.ntmps244 ?_;intro N G hid hG0 hG;have c1:=length_m src hb hl id;have hM:manyE intE src=if(lenE src).2.2=0 then manyG intE (lenE src).1.toNat (lenE src).2.1 []else([],[],(lenE src).2.2):=rfl
 have hle:=lenE_less src hb;have his:=lenE_is hb;generalize manyE intE src=M at*;by_cases g:(lenE src).2.2=0
 ·obtain⟨i1,i2,i3,i4⟩:=his g
  rw[if_pos g]at hM;rw[i1,g]at c1;obtain⟨s,hs⟩:∃s,(lenE src).2.1=s:=⟨_,rfl⟩;obtain⟨n,hn⟩:∃n:Nat,(lenE src).1=n:=⟨_,(Int.toNat_of_nonneg i2).symm⟩;unfold curO at c1;rw[if_pos g,hs,hn]at c1;rw[hn,hs,Int.toNat_natCast]at hM;rw[hs]at hle;rw[hn]at i3;clear i1 i2 i4 his g hn hs hb;unfold curB at*;refine zgoM ?_;refine zforB (α:=(List Int×List Int)×Nat) (G:=G) n (fun k a=> [(20,true,zV k),(19,true,zV n),(8,true,oV1 k a.2),(1,true,.fn (.func 212) [] []),(0,true,.ptr id 0 0)]) (fun k a=>(id,some (.cells 376 1 [[.snap (encL byteRow a.1.1)]] true false))::oT1 3 1 (encL intRow a.1.2) k a.2) (fun k m a=>(N≤m∧m≤N+300+110*k)∧((∀x∈a.1.1,ByteOK x)∧a.1.1.length≤src.length)∧a.1.2.length=k∧manyG intE (n-k) a.1.1 a.1.2=M∧(0<k→N≤a.2∧a.2<m)) ⟨N+250,((s,[]),0),⟨⟨by omega,by omega⟩,hle,rfl,hM.symm,fun h=>by omega⟩,zholdsB⟩ (fun k m a hk hR=> ?_) (fun m a hR=> ?_)
  ·obtain⟨⟨s',out⟩,oid⟩:=a
   obtain⟨⟨h1,h1'⟩,⟨h2,h3⟩,h4,h5,h6⟩:=hR;simp only[]at h1 h1' h2 h3 h4 h5 h6⊢;obtain⟨f,hf⟩:∃f,n-k=f+1:=⟨n-k-1,by omega⟩
   rw[hf,manyG_succ]at h5;have c2:=number_m s' h2 (by omega) id
   have hl2:=intE_less s' h2;have hf2:n-(k+1)=f:=by omega
   clear c1 hM hle;generalize intE s'=X at*;obtain⟨x,r,e⟩:=X;simp only[]at*;unfold curO curB at c2;simp only[]at c2;have hlo:(out++[x]).length=k+1:=by simp[h4]
   by_cases g:e=0
   ·subst g
    rw[if_pos rfl]at c2 h5;have h7:Lat (manyG intE (n-(k+1)) r (out++[x])=M):=⟨by rw[hf2];exact h5⟩
    have h8:Lat ((∀x∈r,ByteOK x)∧r.length≤src.length):=⟨hl2.1,by omega⟩
    clear h5 hf hf2 h2 hl2;cases k with
    |zero=>
     have h9:out=[]:=List.eq_nil_of_length_eq_zero h4;subst h9;clear h6;refine zgoM ?_;exact⟨m+102,((r,[x]),m+100+1),⟨⟨by omega,by omega⟩,h8.out,hlo,h7.out,fun _=>⟨by simp only[];omega,by simp only[];omega⟩⟩,zholdsB⟩
    |succ j=>
     obtain⟨h9,h10⟩:=h6 (by omega)
     refine zgoM ?_;exact⟨m+102,((r,out++[x]),m+100+1),⟨⟨by omega,by omega⟩,h8.out,hlo,h7.out,fun _=>⟨by simp only[];omega,by simp only[];omega⟩⟩,zholdsB⟩
   ·rw[if_neg g]at c2 h5
    subst h5;unfold curO;rw[if_neg g];clear h2 hl2 hf hf2 hlo;cases k with
    |zero=>
     refine zgoM ?_;exact zfinM
    |succ j=>
     obtain⟨h9,h10⟩:=h6 (by omega)
     refine zgoM ?_;exact zfinM
  ·obtain⟨⟨s',out⟩,oid⟩:=a
   obtain⟨⟨h1,h1'⟩,⟨h2,h3⟩,h4,h5,h6⟩:=hR;simp only[]at h1 h1' h2 h3 h4 h5 h6⊢;rw[Nat.sub_self,manyG_zero]at h5;subst h5;unfold curO curB;rw[if_pos rfl];clear c1 hM hle h2;cases n with
   |zero=>
    have h9:out=[]:=List.eq_nil_of_length_eq_zero h4;subst h9;refine zgoM ?_;exact zfinM
   |succ j=>
    obtain⟨h9,h10⟩:=h6 (by omega)
    have h11:out.take (j+1)=out:=List.take_of_length_le (by omega)
    refine zgoM ?_;exact zfinM
 ·rw[if_neg g]at hM
  subst hM;unfold curO at*;rw[if_neg g]at c1;rw[if_neg g];clear hle his hb;generalize (lenE src).2.2=e at*;unfold curB at*;refine zgoM ?_;exact zfinM
end Go.Proofs.YtioafciifiggaaaGreatDoor
namespace Go.Proofs.YtioafciifiggaaaGreatDoor
open Go.Proofs Go.AL
set_option maxRecDepth 100000
set_option maxHeartbeats 1000000
attribute [local irreducible] endA AW aops thenA blockA hold
attribute [local irreducible] numG
theorem rlen3_p(src:List Int)(hb:∀x∈src,ByteOK x)(hl:src.length≤100000):PC 257 [.snap (encL byteRow src)] (.tup [zV (lenE src).1,.snap (encL byteRow (lenE src).2.1),zV (lenE src).2.2]):=by
 refine pstart Tryz.func257 Tryz.ntmps257 (by simp only[go_sem]) ?_
 have c1:=rint_p src hb hl;unfold lenE;generalize intE src=X at*;obtain⟨x,r,e⟩:=X;clear hb;simp only[]at*;by_cases g:e=0
 ·subst g
  rw[if_pos rfl];by_cases g2:65536<x
  ·rw[if_pos g2]
   refine zgo ?_;exact zfin
  ·rw[if_neg g2]
   refine zgo ?_;exact zfin
 ·rw[if_neg g]
  refine zgo ?_;exact zfin
theorem rints_p(src:List Int)(hb:∀x∈src,ByteOK x)(hl:src.length≤100000):PC 221 [.snap (encL byteRow src)] (.tup [.snap (encL intRow (manyE intE src).1),.snap (encL byteRow (manyE intE src).2.1),zV (manyE intE src).2.2]):=by
 refine pstart Tryz.func221 Tryz.ntmps221 (by simp only[go_sem]) ?_
 have c1:=rlen3_p src hb hl;have hM:manyE intE src=if(lenE src).2.2=0 then manyG intE (lenE src).1.toNat (lenE src).2.1 []else([],[],(lenE src).2.2):=rfl
 have hle:=lenE_less src hb;have his:=lenE_is hb;generalize manyE intE src=M at*;by_cases g:(lenE src).2.2=0
 ·obtain⟨i1,i2,i3,i4⟩:=his g
  rw[if_pos g]at hM;rw[g]at c1;obtain⟨s,hs⟩:∃s,(lenE src).2.1=s:=⟨_,rfl⟩;obtain⟨n,hn⟩:∃n:Nat,(lenE src).1=n:=⟨_,(Int.toNat_of_nonneg i2).symm⟩;rw[hs,hn]at c1;rw[hn,hs,Int.toNat_natCast]at hM;rw[hs]at hle;rw[hn]at i3;clear i1 i2 i4 his g hn hs hb;refine zgo ?_;refine zfor (α:=(List Int×List Int)×Nat) n (fun k a=> [(8,true,zV k),(5,true,zV n),(7,true,oV1 k a.2),(0,true,.snap (encL byteRow a.1.1))]) (fun k a=>oT1 3 1 (encL intRow a.1.2) k a.2) (fun k m a=>((∀x∈a.1.1,ByteOK x)∧a.1.1.length≤src.length)∧a.1.2.length=k∧manyG intE (n-k) a.1.1 a.1.2=M∧(0<k→a.2<m)) ⟨0,((s,[]),0),⟨hle,rfl,hM.symm,fun h=>by omega⟩,zholds⟩ (fun k m a hk hR=> ?_) (fun m a hR=> ?_)
  ·obtain⟨⟨s',out⟩,oid⟩:=a
   obtain⟨⟨h2,h3⟩,h4,h5,h6⟩:=hR;simp only[]at h2 h3 h4 h5 h6⊢;obtain⟨f,hf⟩:∃f,n-k=f+1:=⟨n-k-1,by omega⟩
   rw[hf,manyG_succ]at h5;have hl2:=intE_less s' h2;have hf2:n-(k+1)=f:=by omega
   clear c1 hM hle;have c2:=rint_p s' h2 (by omega)
   generalize intE s'=X at*;obtain⟨x,r,e⟩:=X;simp only[]at*;have hlo:(out++[x]).length=k+1:=by simp[h4]
   by_cases g:e=0
   ·subst g
    rw[if_pos rfl]at h5;have h7:Lat (manyG intE (n-(k+1)) r (out++[x])=M):=⟨by rw[hf2];exact h5⟩
    have h8:Lat ((∀x∈r,ByteOK x)∧r.length≤src.length):=⟨hl2.1,by omega⟩
    clear h5 hf hf2 h2 hl2;cases k with
    |zero=>
     have h9:out=[]:=List.eq_nil_of_length_eq_zero h4;subst h9;clear h6;refine zgo ?_;exact⟨m+2,((r,[x]),m+1),⟨h8.out,hlo,h7.out,fun _=>by simp only[];omega⟩,zholds⟩
    |succ j=>
     have h10:=h6 (by omega)
     refine zgo ?_;exact⟨m+2,((r,out++[x]),m+1),⟨h8.out,hlo,h7.out,fun _=>by simp only[];omega⟩,zholds⟩
   ·rw[if_neg g]at h5
    subst h5;clear h2 hl2 hf hf2 hlo;cases k with
    |zero=>
     refine zgo ?_;exact zfin
    |succ j=>
     have h10:=h6 (by omega)
     refine zgo ?_;exact zfin
  ·obtain⟨⟨s',out⟩,oid⟩:=a
   obtain⟨⟨h2,h3⟩,h4,h5,h6⟩:=hR;simp only[]at h2 h3 h4 h5 h6⊢;rw[Nat.sub_self,manyG_zero]at h5;subst h5;clear c1 hM hle h2;cases n with
   |zero=>
    have h9:out=[]:=List.eq_nil_of_length_eq_zero h4;subst h9;refine zgo ?_;exact zfin
   |succ j=>
    have h10:=h6 (by omega)
    have h11:out.take (j+1)=out:=List.take_of_length_le (by omega)
    refine zgo ?_;exact zfin
 ·rw[if_neg g]at hM
  subst hM;clear hle his hb;generalize lenE src=L at*;obtain⟨l1,l2,e⟩:=L;simp only[]at*;refine zgo ?_;exact zfin
end Go.Proofs.YtioafciifiggaaaGreatDoor
