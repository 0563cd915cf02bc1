/- Staging: contracts of its functions (Ad). No condition but those named. -/
import Derived.Test.YtioafciifiggaaaGreatDoorAc
set_option linter.unusedVariables false
set_option linter.unusedSimpArgs false
namespace Go.Proofs.YtioafciifiggaaaGreatDoor
open Go.Proofs Go.AL
set_option maxRecDepth 100000
set_option maxHeartbeats 1000000
attribute [local irreducible] endA AW aops thenA blockA hold
theorem gS(l:List Sec)(k:Nat)(h:k<l.length):(encL encSec l)[k]? =some (encSec (l.getD k zSec)):=encL_get zSec h
def d4(s:Sec):List Int:=[s.2.1,s.2.2.1,s.2.2.2.1,s.2.2.2.2]
def dataS(l:List Sec):List Int:=l.flatMap d4
def SecOK(s:Sec):Prop:=GenOK s∧∀x∈d4 s,ByteOK x
@[go_sem] theorem sec_tail(s:Sec):List.map (fun x=> [x]) (List.take 4 (List.drop 4 (encSec s)))=encL byteRow (d4 s):=rfl
@[go_sem] theorem d4_len(s:Sec):(d4 s).length=4:=rfl
@[go_sem] theorem d4_ne(s:Sec):(d4 s).isEmpty=false:=rfl
theorem dataS_succ{l:List Sec}{k:Nat}(h:k<l.length):encL byteRow (dataS (l.take k))++encL byteRow (d4 (l.getD k zSec))=encL byteRow (dataS (l.take (k+1))):=by
 rw[List.take_succ_eq_append_getElem h];simp only[dataS,List.flatMap_append,List.flatMap_cons,List.flatMap_nil,List.append_nil,encL,List.map_append,List.getD_eq_getElem?_getD,List.getElem?_eq_getElem h,Option.getD_some]
theorem dataS_len:∀(l:List Sec),(dataS l).length=4*l.length
 |[]=>rfl
 |s::l=>by
  have:=dataS_len l;simp only[dataS,List.flatMap_cons,List.length_append,List.length_cons]at this⊢;rw[this];simp[d4];omega
def oV:Nat→Nat→AV
 |0,_=> .c (.slice none 0 0)
 |k+1,id=> .own id 0 (4*(k+1))
def oT:Nat→Nat→List Int→List (Nat×Option Blk)
 |0,_,_=> []
 |k+1,id,D=> [(id,some (.cells 5 1 (encL byteRow D) true true))]
def sameG(l:List Sec):Bool:=l.all fun s=>genS s==genS (l.getD 0 zSec)
def parseS(l:List Sec):List Int×Int:=
 if sameG l=true then
  if 31<(dataS l).getD 0 0 then([],0)
  else if((dataS l).drop (((dataS l).getD 0 0).toNat+1)).all (fun x=>x==0)=true then(((dataS l).drop 1).take ((dataS l).getD 0 0).toNat,genS (l.getD 0 zSec))else([],0)
 else([],0)
theorem rcap_p:PC 166 [] (zV 31):=by
 refine pstart Tryz.func166 Tryz.ntmps166 (.c _) ?_;refine zgo ?_;exact zfin
theorem parse_p(l:List Sec)(hl:l.length=8)(h:∀s∈l,SecOK s):PC 210 [.snap (encL encSec l)] (.tup [.snap (encL byteRow (parseS l).1),.c (.int .u32 (parseS l).2)]):=by
 refine pstart Tryz.func210 Tryz.ntmps210 (by simp only[go_sem]) ?_
 have hg:=gS l;have c0:=rcap_p;have c1:=rgen_p (l.getD 0 zSec) (h _ (getD_mem' zSec (by omega))).1
 refine zgo ?_;refine zfor (α:=Nat) 8 (fun k id=> [(6,true,zV k),(5,true,oV k id),(4,true,.c (.int .u32 (genS (l.getD 0 zSec)))),(0,true,.snap (encL encSec l))]) (fun k id=>oT k id (dataS (l.take k))) (fun k m id=>(k=0∨id<m)∧∀i,i<k→genS (l.getD i zSec)=genS (l.getD 0 zSec)) ⟨0,0,⟨.inl rfl,fun i hi=>by omega⟩,?_⟩ (fun k m id hk hm=> ?_) (fun m id hm=> ?_)
 ·simp only[oV,oT]
  exact zholds
 ·have c2:=rgen_p (l.getD k zSec) (h _ (getD_mem' zSec (by omega))).1
  obtain⟨hm1,hm2⟩:=hm;have h5:=dataS_succ (l:=l) (k:=k) (by omega)
  by_cases g:genS (l.getD k zSec)=genS (l.getD 0 zSec)
  ·have h6:∀i,i<k+1→genS (l.getD i zSec)=genS (l.getD 0 zSec):=fun i hi=>by
    by_cases hik:i=k
    ·subst hik;exact g
    ·exact hm2 i (by omega)
   clear hm2;cases k with
   |zero=>
    simp only[oV,oT,List.take_zero]at h5⊢;have h9:encL byteRow (d4 (l.getD 0 zSec))=encL byteRow (dataS (List.take (0+1) l)):=h5;have h8:(dataS (List.take 1 l)).length=4:=by rw[dataS_len,List.length_take];omega
    have h10:(dataS (List.take 1 l)).isEmpty=false:=by
     cases hx:dataS (List.take 1 l)with
     |nil=>rw[hx]at h8;simp at h8
     |cons a b=>rfl
    clear h5;refine zgo ?_;refine⟨m+1,m,⟨by omega,h6⟩,?_⟩
    simp only[oV,oT];exact zholds
   |succ k=>
    simp only[oV,oT]at h5⊢;have hm3:id<m:=by omega
    have h8:(dataS (List.take (k+1) l)).length=4*(k+1):=by rw[dataS_len,List.length_take];omega
    refine zgo ?_;refine⟨m+1,m,⟨by omega,h6⟩,?_⟩
    simp only[oV,oT];exact zholds
  ·have h7:sameG l=false:=by
    unfold sameG;rw[List.all_eq_false];exact⟨_,getD_mem' zSec (by omega:k<l.length),by simpa using g⟩
   unfold parseS;clear hm2;refine zgo ?_;exact zfin
 ·simp only[oV,oT]
  rw[List.take_of_length_le (by omega:l.length≤8)]
  obtain⟨hm1,hm2⟩:=hm;have hm3:id<m:=by omega
  have h6:sameG l=true:=by
   unfold sameG;rw[List.all_eq_true];intro x hx;obtain⟨i,hi,rfl⟩:=List.mem_iff_getElem.1 hx;have:=hm2 i (by omega)
   rw[List.getD_eq_getElem?_getD,List.getElem?_eq_getElem hi]at this;simpa using this
  have h7:(dataS l).length=32:=by rw[dataS_len,hl]
  have h8:∀x∈dataS l,ByteOK x:=fun x hx=>by
   obtain⟨s,hs,hx⟩:=List.mem_flatMap.1 hx;exact(h s hs).2 x hx
  unfold parseS;generalize hD:dataS l=D at*;clear hm2;have h9:=h8 _ (getD_mem' 0 (by omega:0<D.length))
  obtain⟨n,hn⟩:=Int.eq_ofNat_of_zero_le h9.1;have h10:n<256:=by have:=h9.2;omega
  have hgD:=gB D;have hw:IntKind.i64.wrap (n:Int)=n:=IntWalk.i64_in _ (by omega)
  clear h9 h8 h c1;by_cases g1:31<n
  ·have g2:(31:Int)<(n:Int):=by omega
   refine zgo ?_;exact zfin
  ·have g2:¬(31:Int)<(n:Int):=by omega
   refine zgo ?_;refine zfor (α:=Unit) (31-n) (fun j _=> [(8,true,.c (.int .i64 ((n+1+j:Nat):Int))),(7,true,zV n),(5,true,.own id 0 32),(4,true,.c (.int .u32 (genS (l.getD 0 zSec)))),(0,true,.snap (encL encSec l))]) (fun j _=> [(id,some (.cells 5 1 (encL byteRow D) true true))]) (fun j m _=>id<m∧∀i,i<j→D.getD (n+1+i) 0=0) ⟨m,(),⟨hm3,fun i hi=>by omega⟩,zholds⟩ (fun j m _ hj hR=> ?_) (fun m _ hR=> ?_)
   ·obtain⟨hR1,hR2⟩:=hR
    by_cases g3:D.getD (n+1+j) 0=0
    ·have hR3:∀i,i<j+1→D.getD (n+1+i) 0=0:=fun i hi=>by
      by_cases hij:i=j
      ·subst hij;exact g3
      ·exact hR2 i (by omega)
     clear hR2;refine zgo ?_;exact⟨m,(),⟨hR1,hR3⟩,zholds⟩
    ·have g4:((D.drop (n+1)).all fun x=>x==0)=false:=by
      rw[List.all_eq_false];refine⟨D.getD (n+1+j) 0,?_,by simpa using g3⟩
      have h11:n+1+j<D.length:=by omega
      rw[List.getD_eq_getElem?_getD,List.getElem?_eq_getElem h11,Option.getD_some];exact List.mem_drop_iff_getElem.2 ⟨j,by omega,rfl⟩
     clear hR2;refine zgo ?_;exact zfin
   ·obtain⟨hR1,hR2⟩:=hR
    have g4:((D.drop (n+1)).all fun x=>x==0)=true:=by
     rw[List.all_eq_true];intro x hx;obtain⟨j,hj,rfl⟩:=List.mem_drop_iff_getElem.1 hx;have:=hR2 j (by omega)
     rw[List.getD_eq_getElem?_getD,List.getElem?_eq_getElem (by omega),Option.getD_some]at this
     simpa using this
    clear hR2;refine zgo ?_;have e1:n+1-1=n:=by omega
    exact zfin
end Go.Proofs.YtioafciifiggaaaGreatDoor
namespace Go.Proofs.YtioafciifiggaaaGreatDoor
open Go.Proofs Go.AL
set_option maxRecDepth 100000
set_option maxHeartbeats 1000000
attribute [local irreducible] endA AW aops thenA blockA hold
def trimR(c:Int)(l:List Int):List Int:=(l.reverse.dropWhile fun x=>x==c).reverse
theorem trimR_eq{c:Int}{b:List Int}:trimR c (b++[c])=trimR c b:=by simp[trimR,List.dropWhile_cons]
theorem trimR_ne{c x:Int}{b:List Int}(h:¬x=c):trimR c (b++[x])=b++[x]:=by simp[trimR,List.dropWhile_cons,h]
theorem trimB_p(l:List Int)(c:Int)(hl:l.length≤100000):PC 283 [.snap (encL byteRow l),uV c] (.snap (encL byteRow (trimR c l))):=by
 refine pstart Tryz.func283 Tryz.ntmps283 (encL_noId _) ?_;refine zgo ?_;refine zwhile (α:=List Int) (fun a=> [(0,true,.snap (encL byteRow a)),(1,true,uV c)]) (fun _=> []) (fun m a=>a.length≤100000∧trimR c a=trimR c l) List.length l ⟨0,⟨hl,rfl⟩,zholds⟩ (fun m a hR=> ?_)
 obtain⟨hR1,hR2⟩:=hR;rcases List.eq_nil_or_concat a with rfl|⟨b,x,rfl⟩
 ·have h5:trimR c l=[]:=by rw[←hR2];rfl
  rw[h5];clear hR2 h5;refine zgo ?_;exact zfin
 ·simp only[List.concat_eq_append]at hR1 hR2⊢
  have h1:(b++[x]).length=b.length+1:=by simp
  have h2:(encL byteRow (b++[x]))[b.length]? =some (byteRow x):=by
   rw[encL_get 0 (by simp)];simp
  have h3:(encL byteRow (b++[x])).take b.length=encL byteRow b:=by rw[encL_take];simp
  have h4:(b++[x]).isEmpty=false:=by cases b<;>rfl
  have e1:((b.length+1:Nat):Int)-1=(b.length:Int):=by omega
  generalize hA:b++[x]=A at*;by_cases g:x=c
  ·subst g
   have h5:trimR x b=trimR x l:=by rw[←hR2,←hA,trimR_eq]
   clear hR2;refine zgo ?_;exact⟨m,b,by omega,⟨by omega,h5⟩,zholds⟩
  ·have h5:trimR c l=A:=by rw[←hR2,←hA,trimR_ne g]
   rw[h5];clear hR2 h5;refine zgo ?_;exact zfin
theorem str1:((⟨#[0]⟩:ByteArray).toList==(⟨#[]⟩:ByteArray).toList)=false:=by
 simp[ByteArray.toList,ByteArray.toList.loop,ByteArray.size,ByteArray.get!]
theorem str2:(⟨#[0]⟩:ByteArray).size=1:=rfl
theorem str3:(⟨#[0]⟩:ByteArray)[0]? =some (0:UInt8):=by rfl
theorem trim_p(l:List Int)(hl:l.length≤100000):PC 249 [.snap (encL byteRow l),.c (.string ⟨#[0]⟩)] (.snap (encL byteRow (trimR 0 l))):=by
 refine pstart Tryz.func249 Tryz.ntmps249 (encL_noId _) ?_;have c1:=trimB_p l 0 hl;by_cases h:l=[]
 ·subst h
  have h5:trimR 0 []=[]:=rfl;refine zgo ?_;exact zfin
 ·have h1:=isEmpty_f h
  have s1:=str1;have s2:=str2;have s3:=str3;have s4:((UInt8.toNat 0:Nat):Int)=0:=rfl;have h2:¬l.length=0:=by rw[List.length_eq_zero_iff];exact h
  refine zgo ?_;exact zfin
end Go.Proofs.YtioafciifiggaaaGreatDoor
namespace Go.Proofs.YtioafciifiggaaaGreatDoor
open Go.Proofs Go.AL
set_option maxRecDepth 100000
set_option maxHeartbeats 1000000
attribute [local irreducible] endA AW aops thenA blockA hold
theorem trim_all{l:List Int}:(trimR 0 l=[])↔(l.all fun x=>x==0)=true:=by
 unfold trimR;rw[List.reverse_eq_nil_iff]
 have h:∀m:List Int,m.dropWhile (fun x=>x==0)=[]↔∀x∈m,x=0:=by
  intro m
  induction m with
  |nil=>simp
  |cons a m ih=>
   by_cases ha:a=0
   ·simp[List.dropWhile_cons,ha,ih]
   ·simp[List.dropWhile_cons,ha]
 rw[h];simp
def copyV(g:Int)(p:List Int)(l:List Sec):AV:= .agg [zV g,.snap (encL byteRow p),.snap (encL encSec l)]
theorem get_p(l:List Sec)(hl:l.length=8)(h:∀s∈l,SecOK s):PC 209 [.snap (encL encSec l)] (copyV (parseS l).2 (parseS l).1 l):=by
 unfold copyV;refine pstart Tryz.func209 Tryz.ntmps209 (by simp only[go_sem]) ?_
 have hg:=gS l;have c1:=generation_p (l.getD 0 zSec) (h _ (getD_mem' zSec (by omega))).1
 refine zgo ?_;refine w_rounds 2 ?_;refine w_round ?_;refine zgo ?_;refine zfor (α:=Nat) 8 (fun k id=> [(12,true,zV k),(11,true,zV (8:Nat)),(10,true,.snap (encL encSec l)),(4,true,oV k id),(3,true,.ptr 1 0 0),(2,true,.ptr 0 0 0),(0,true,.snap (encL encSec l))]) (fun k id=>(0,some (.cells 261 3 [[.c (.int .i64 0),.c (.slice none 0 0),.c (.slice none 0 0)]] true false))::(1,some (.cells 261 3 [[.c (.int .i64 0),.c (.slice none 0 0),.snap (encL encSec l)]] true false))::oT k id (dataS (l.take k))) (fun k m id=>(3≤m∧(k=0∨(1<id∧id<m)))∧∀i,i<k→genS (l.getD i zSec)=genS (l.getD 0 zSec)) ⟨3,0,⟨⟨by omega,.inl rfl⟩,fun i hi=>by omega⟩,?_⟩ (fun k m id hk hm=> ?_) (fun m id hm=> ?_)
 ·simp only[oV,oT]
  exact zholds
 ·have c2:=generation_p (l.getD k zSec) (h _ (getD_mem' zSec (by omega))).1
  obtain⟨⟨hm0,hm1⟩,hm2⟩:=hm;have h5:=dataS_succ (l:=l) (k:=k) (by omega)
  by_cases g:genS (l.getD k zSec)=genS (l.getD 0 zSec)
  ·have h6:∀i,i<k+1→genS (l.getD i zSec)=genS (l.getD 0 zSec):=fun i hi=>by
    by_cases hik:i=k
    ·subst hik;exact g
    ·exact hm2 i (by omega)
   clear hm2;cases k with
   |zero=>
    simp only[oV,oT,List.take_zero]at h5⊢;have h9:encL byteRow (d4 (l.getD 0 zSec))=encL byteRow (dataS (List.take (0+1) l)):=h5;have h8:(dataS (List.take 1 l)).length=4:=by rw[dataS_len,List.length_take];omega
    have h10:(dataS (List.take 1 l)).isEmpty=false:=by
     cases hx:dataS (List.take 1 l)with
     |nil=>rw[hx]at h8;simp at h8
     |cons a b=>rfl
    clear h5;refine zgo ?_;refine⟨m+10,m+9,⟨⟨by omega,by omega⟩,h6⟩,?_⟩
    simp only[oV,oT];exact zholds
   |succ k=>
    simp only[oV,oT]at h5⊢;have hm3:1<id∧id<m:=by omega
    obtain⟨hm4,hm5⟩:=hm3;have h8:(dataS (List.take (k+1) l)).length=4*(k+1):=by rw[dataS_len,List.length_take];omega
    refine zgo ?_;refine⟨m+10,m+9,⟨⟨by omega,by omega⟩,h6⟩,?_⟩
    simp only[oV,oT];exact zholds
  ·have h7:sameG l=false:=by
    unfold sameG;rw[List.all_eq_false];exact⟨_,getD_mem' zSec (by omega:k<l.length),by simpa using g⟩
   have h11:parseS l=([],0):=by unfold parseS;rw[h7];rfl
   rw[h11];clear hm2;cases k with
   |zero=>exact absurd rfl g
   |succ k=>
    simp only[oV,oT];have hm3:1<id∧id<m:=by omega
    obtain⟨hm4,hm5⟩:=hm3;refine zgo ?_;exact zfin
 ·simp only[oV,oT]
  rw[List.take_of_length_le (by omega:l.length≤8)]
  obtain⟨⟨hm0,hm1⟩,hm2⟩:=hm;have hm3:1<id:=by omega
  have hm4:id<m:=by omega
  have h6:sameG l=true:=by
   unfold sameG;rw[List.all_eq_true];intro x hx;obtain⟨i,hi,rfl⟩:=List.mem_iff_getElem.1 hx;have:=hm2 i (by omega)
   rw[List.getD_eq_getElem?_getD,List.getElem?_eq_getElem hi]at this;simpa using this
  have h7:(dataS l).length=32:=by rw[dataS_len,hl]
  have h8:∀x∈dataS l,ByteOK x:=fun x hx=>by
   obtain⟨s,hs,hx⟩:=List.mem_flatMap.1 hx;exact(h s hs).2 x hx
  unfold parseS;generalize hD:dataS l=D at*;clear hm2;have h9:=h8 _ (getD_mem' 0 (by omega:0<D.length))
  obtain⟨n,hn⟩:=Int.eq_ofNat_of_zero_le h9.1;have h10:n<256:=by have:=h9.2;omega
  have hgD:=gB D;have hw:IntKind.i64.wrap (n:Int)=n:=IntWalk.i64_in _ (by omega)
  clear h9 h8 h hD hm1;by_cases g1:31<n
  ·have g2:(31:Int)<(n:Int):=by omega
   refine zgo ?_;exact zfin
  ·have g2:¬(31:Int)<(n:Int):=by omega
   have c3:=trim_p (D.drop (n+1)) (by rw[List.length_drop];omega)
   have h12:(encL byteRow (D.drop (n+1))).length=32-(n+1):=by rw[encL_len,List.length_drop];omega
   have h13:List.take (32-(n+1)) (D.drop (n+1))=D.drop (n+1):=List.take_of_length_le (by rw[List.length_drop];omega)
   have h14:List.take (32-(n+1)) (encL byteRow (D.drop (n+1)))=encL byteRow (D.drop (n+1)):=List.take_of_length_le (by omega)
   by_cases g3:trimR 0 (D.drop (n+1))=[]
   ·have g4:=trim_all.1 g3
    refine zgo ?_;have e1:n+1-1=n:=by omega
    exact zfin
   ·have g4:((D.drop (n+1)).all fun x=>x==0)=false:=by
     cases hb:((D.drop (n+1)).all fun x=>x==0)with
     |false=>rfl
     |true=>exact absurd (trim_all.2 hb) g3
    have g5:0<(trimR 0 (D.drop (n+1))).length:=List.length_pos_iff.2 g3;refine zgo ?_;exact zfin
end Go.Proofs.YtioafciifiggaaaGreatDoor
namespace Go.Proofs.YtioafciifiggaaaGreatDoor
open Go.Proofs Go.AL
set_option maxRecDepth 100000
set_option maxHeartbeats 1000000
attribute [local irreducible] endA AW aops thenA blockA hold
def opRow(o:Int×Int×List Sec):List AV:=[zV o.1,zV o.2.1,.snap (encL encSec o.2.2)]
@[go_sem] theorem sec_expoD(G:Nat→Option Blk)(k:Nat)(s:Sec):(encSec s).map (expoD G k)=encSec s:=by
  cases k<;>simp[encSec,expoD]
theorem op_noId(o:Int×Int×List Sec):∀x∈opRow o,NoId x:=by
 intro x hx;simp only[opRow,List.mem_cons,List.not_mem_nil,or_false]at hx;rcases hx with rfl|rfl|rfl
 ·exact .c _
 ·exact .c _
 ·exact encL_noId _
instance :RowEnc opRow 3:=⟨fun _=>rfl,fun _=>rfl,op_noId⟩
def zs16:List Sec:=List.replicate 16 zSec
def sbFmt(a:Int)(p:List Int):List (Int×Int×List Sec)×Int:=
 if a<0∨4080<a then([],2)
 else if 31<p.length then([],5)
 else([(0,a,zs16),(1,0,[]),(0,a,putS 1 p),(1,0,[])],0)
theorem sbFormat_p(a:Int)(p:List Int)(hp:p.length≤100000):PC 104 [zV a,.snap (encL byteRow p)] (.tup [.snap (encL opRow (sbFmt a p).1),zV (sbFmt a p).2]):=by
 refine pstartD Tryz.func104 Tryz.ntmps104 (by simp only[go_sem]) ?_
 unfold sbFmt;by_cases g1:a<0
 ·refine zgo ?_
  exact zfin
 by_cases g2:4080<a
 ·refine zgo ?_
  exact zfin
 have g3:¬(a<0∨4080<a):=by omega
 rw[if_neg g3];clear g3;by_cases g4:31<p.length
 ·have g5:(31:Int)<p.length:=by omega
  refine zgo ?_;exact zfin
 have g5:¬(31:Int)<p.length:=by omega
 have c1:=put_p 1 p (by omega)
 rw[if_neg g4];unfold zs16;refine zgo ?_;exact zfin
end Go.Proofs.YtioafciifiggaaaGreatDoor
namespace Go.Proofs.YtioafciifiggaaaGreatDoor
open Go.Proofs Go.AL
set_option maxRecDepth 100000
set_option maxHeartbeats 1000000
attribute [local irreducible] endA AW aops thenA blockA hold
theorem wkr_refl(xs:List (List AV)):Wkr xs xs:=⟨rfl,fun k a b h1 h2=>by rw[h1]at h2;injection h2 with h2;subst h2;exact wks_refl a⟩
theorem zfin2{A:Prop}(w:A:=by(simp(maxSteps:=2000000) (disch:=omega) only[go_sem,noId_c,noId_agg,noId_tup,noId_snap,false_implies,implies_true, *];(repeat (first|exact .refl _|exact .nil|exact wks_nil|refine wks_cons ?_ ?_|refine wk_tup ?_|refine wk_agg ?_|refine wk_snap ?_|exact wkr_nil|exact wkr_refl _|refine wkr_cons ?_ ?_)))):A:=w
@[go_sem] theorem op_expoD(G:Nat→Option Blk)(k:Nat)(F:List (Int×Int×List Sec)):(encL opRow F).map (fun row=>row.map (expoD G k))=encL opRow F:=by
  unfold encL;rw[List.map_map];refine List.map_congr_left fun o _=> ?_
  cases k<;>simp[opRow,expoD]
theorem sbFmt_len(a:Int)(p:List Int):(sbFmt a p).1.length≤4:=by
 unfold sbFmt;split
 ·simp
 ·split
  ·simp
  ·simp
end Go.Proofs.YtioafciifiggaaaGreatDoor
namespace Go.Proofs.YtioafciifiggaaaGreatDoor
open Go.Proofs Go.AL
set_option maxRecDepth 100000
set_option maxHeartbeats 1000000
attribute [local irreducible] endA AW aops thenA blockA hold
structure Dsk where
 st:List Sec
 ca:List (Int×Sec)
def encD(d:Dsk):List AV:=[.snap (encL encSec d.st),.snap (encL encCa d.ca)]
theorem gC(l:List (Int×Sec))(k:Nat)(h:k<l.length):(encL encCa l)[k]? =some (encCa (l.getD k (0,zSec))):=encL_get (0,zSec) h
def badC(n:Nat)(c:Int×Sec):Bool:=decide (c.1<0)||decide ((n:Int)≤c.1)
def dskE(d:Dsk):Int:=if 4096<d.st.length then 2 else if d.ca.any (badC d.st.length)=true then 2 else 0
theorem rdcheck_p(d:Dsk)(h1:d.st.length≤1000000)(h2:d.ca.length≤1000000):PC 38 [.agg (encD d)] (zV (dskE d)):=by
 refine pstart Tryz.func38 Tryz.ntmps38 (.c _) ?_;obtain⟨st,ca⟩:=d;unfold encD dskE;simp only[]at h1 h2⊢;have hg:=gC ca;by_cases g1:4096<st.length
 ·have g2:(4096:Int)<(st.length:Int):=by omega
  refine zgo ?_;exact zfin
 have g2:¬(4096:Int)<(st.length:Int):=by omega
 refine zgo ?_;refine zfor (α:=Unit) ca.length (fun k _=> [(3,true,zV k),(1,true,.ptr 0 0 0)]) (fun _ _=> [(0,some (.cells 25 2 [[.snap (encL encSec st),.snap (encL encCa ca)]] true false))]) (fun k m _=>1≤m∧∀i,i<k→badC st.length (ca.getD i (0,zSec))=false) ⟨1,(),⟨Nat.le_refl _,fun i hi=>by omega⟩,zholds⟩ (fun k m _ hk hR=> ?_) (fun m _ hR=> ?_)
 ·obtain⟨hR1,hR2⟩:=hR
  by_cases g3:(ca.getD k (0,zSec)).1<0
  ·have g5:ca.any (badC st.length)=true:=List.any_eq_true.2 ⟨_,getD_mem' (0,zSec) hk,by unfold badC;rw[dec_ltT g3];rfl⟩
   clear hR2;refine zgo ?_;exact zfin
  by_cases g4:(st.length:Int)≤(ca.getD k (0,zSec)).1
  ·have g5:ca.any (badC st.length)=true:=List.any_eq_true.2 ⟨_,getD_mem' (0,zSec) hk,by unfold badC;rw[dec_leT g4];simp⟩
   clear hR2;refine zgo ?_;exact zfin
  have hR3:∀i,i<k+1→badC st.length (ca.getD i (0,zSec))=false:=fun i hi=>by
   by_cases hik:i=k
   ·subst hik;unfold badC;rw[dec_ltF g3,dec_leF g4];rfl
   ·exact hR2 i (by omega)
  clear hR2;refine zgo ?_;exact⟨m+19,(),⟨by omega,hR3⟩,zholds⟩
 ·have g5:ca.any (badC st.length)=false:=by
   rw[List.any_eq_false];intro x hx;obtain⟨i,hi,rfl⟩:=List.mem_iff_getElem.1 hx;have:=hR.2 i hi;rw[List.getD_eq_getElem?_getD,List.getElem?_eq_getElem hi]at this;simpa using this
  clear hR;refine zgo ?_;exact zfin
end Go.Proofs.YtioafciifiggaaaGreatDoor
namespace Go.Proofs.YtioafciifiggaaaGreatDoor
open Go.Proofs Go.AL
set_option maxRecDepth 100000
set_option maxHeartbeats 1000000
attribute [local irreducible] endA AW aops thenA blockA hold
def newL(st:List Sec)(ca:List (Int×Sec)):List Sec:=ca.foldl (fun l c=>l.set c.1.toNat c.2) st
theorem newL_len:∀(ca:List (Int×Sec)) (st:List Sec),(newL st ca).length=st.length
 |[],st=>rfl
 |c::ca,st=>by
  have:=newL_len ca (st.set c.1.toNat c.2);simpa[newL]using this
theorem newL_succ{st:List Sec}{ca:List (Int×Sec)}{k n:Nat}(h:k<ca.length)(hn:(ca.getD k (0,zSec)).1=(n:Int)):(newL st (ca.take k)).set n (ca.getD k (0,zSec)).2=newL st (ca.take (k+1)):=by
 rw[List.take_succ_eq_append_getElem h];have e:ca.getD k (0,zSec)=ca[k]:=by rw[List.getD_eq_getElem?_getD,List.getElem?_eq_getElem h];rfl
 rw[e]at hn⊢;simp only[newL,List.foldl_append,List.foldl_cons,List.foldl_nil,hn];rfl
theorem dskE_ok{d:Dsk}(h:dskE d=0):d.st.length≤4096∧∀c∈d.ca,0≤c.1∧c.1<(d.st.length:Int):=by
 unfold dskE at h;split at h
 ·exact absurd h (by decide)
 ·rename_i h1
  split at h
  ·exact absurd h (by decide)
  ·rename_i h2
   refine⟨by omega,fun c hc=> ?_⟩
   rw[Bool.not_eq_true,List.any_eq_false]at h2;have:=h2 c hc;simp only[badC,Bool.or_eq_true,decide_eq_true_eq,not_or]at this;omega
theorem rnewest_p(d:Dsk)(h2:d.ca.length≤1000000)(h:dskE d=0):PC 178 [.agg (encD d)] (.snap (encL encSec (newL d.st d.ca))):=by
 refine pstart Tryz.func178 Tryz.ntmps178 (encL_noId _) ?_;obtain⟨h0,h3⟩:=dskE_ok h;obtain⟨st,ca⟩:=d;unfold encD;simp only[]at h0 h2 h3⊢;clear h;by_cases g:st=[]
 ·have g2:ca=[]:=by
   cases ca with
   |nil=>rfl
   |cons c ca=>have:=h3 c (by simp);subst g;simp at this;omega
  subst g g2;clear h3;have g3:newL [] []=[]:=rfl;rw[g3];clear g3;refine zgo ?_;refine w_rounds 2 ?_;refine w_round ?_;refine zgo ?_;exact zfin
 ·have g1:=isEmpty_f g
  have hg:=gC ca;refine zgo ?_;refine zfor (α:=Unit) ca.length (fun k _=> [(4,true,zV k),(3,true,.own 1 0 st.length),(1,true,.ptr 0 0 0)]) (fun k _=> [(0,some (.cells 25 2 [[.snap (encL encSec st),.snap (encL encCa ca)]] true false)),(1,some (.cells 124 8 (encL encSec (newL st (ca.take k))) true true))]) (fun k m _=>2≤m) ⟨2,(),Nat.le_refl _,?_⟩ (fun k m _ hk hR=> ?_) (fun m _ hR=> ?_)
  ·have e0:newL st (ca.take 0)=st:=rfl
   rw[e0];exact zholds
  ·obtain⟨h5,h6⟩:=h3 _ (getD_mem' (0,zSec) hk)
   obtain⟨n,hn⟩:=Int.eq_ofNat_of_zero_le h5;have h7:=newL_succ (st:=st) hk hn;have h8:n<st.length:=by omega
   have h9:=newL_len (ca.take k) st;have h10:=gS (newL st (ca.take k));clear h3 h5 h6;refine zgo ?_;exact⟨m+15,(),by omega,zholds⟩
  ·have e0:newL st (ca.take ca.length)=newL st ca:=by rw[List.take_length]
   have e1:=newL_len ca st;have e2:(newL st ca).take st.length=newL st ca:=List.take_of_length_le (by omega)
   rw[e0];clear h3;refine zgo ?_;exact zfin
end Go.Proofs.YtioafciifiggaaaGreatDoor
