/- Target: contracts of its functions (Ac). No condition but those named. -/
import Derived.Test.YtpaomccedbjknaaGreatDoorAb
import Derived.Laws.BitsLemmas
set_option linter.all false
namespace Go.Proofs.YtpaomccedbjknaaGreatDoor
open Go.Proofs Go.AL Tryz
set_option maxRecDepth 100000
set_option maxHeartbeats 8000000
attribute [local irreducible] bT AW b8 cF dB hold
@[go_sem] theorem bR4{α:Type}(l:List α)(x:α):(l++[x]).take (l.length+1)=l++[x]:=cN (by simp)
@[go_sem] theorem bR5{α:Type}(a b:List α):(a++b).take (a.length+b.length)=a++b:=cN (by simp)
theorem KT(n:Int):iY n<=9007199254740991:=by unfold iY;split<;>omega
theorem H6(n:Int)(a:Option Addr)(cap:Nat):rP prog 106 [.c (.slice a 0 cap),zV n] (.own 0 0 (aB aO ([]++aV n)).length) 5 1 (aB aO ([]++aV n)) true:=by
 refine KU func106 ntmps106 (H5 _) ?_;refine aM ?_;refine eO func179 ntmps179 ?_;cases a with
 |none=>
  refine aM ?_;refine tC (TM [] n (by simp) _ [] 0 ⟨KT n,rfl,.inl ⟨rfl,rfl,rfl⟩⟩) ?_
  rintro r H ⟨i,rfl,hH⟩;refine aM ?_;exact⟨i,eN,hH⟩
 |some a=>
  refine aM ?_;refine tC (TM [] n (by simp) (.own 1 0 0) [(1,some (.cells 5 1 (aB aO []) true true))] 2 ⟨KT n,rfl,.inr ⟨1,oM,rfl,rfl⟩⟩) ?_
  rintro r H ⟨i,rfl,hH⟩;refine aM ?_;exact⟨i,eN,hH⟩
theorem BE(b:List Int)(n:Int)(hb:b.length<=100000):rP prog 106 [.snap (aB aO b),zV n] (.own 0 0 (aB aO (b++aV n)).length) 5 1 (aB aO (b++aV n)) true:=by
 by_cases aT:b=[]
 ·subst aT
  exact rP.nil (pre:=[]) (post:=[zV n]) (H6 n)
 ·refine KU func106 ntmps106 (H5 _) ?_
  have c1:=YK b aT oM
  refine aM ?_;refine tC (TM b n hb _ _ 1 ⟨KT n,rfl,.inr ⟨0,oM,rfl,rfl⟩⟩) ?_
  rintro r H ⟨i,rfl,hH⟩;refine aM ?_;exact⟨i,eN,hH⟩
theorem P1(b:List Int)(n:Int)(hb:b.length<=100000):PC 168 [.snap (aB aO b),zV n] (.snap (aB aO (b++aV n))):=by
 refine aZ func168 ntmps168 (gJ _) ?_;have gZ:=KT n;cases P2:b.isEmpty
 case' false=>
  refine aM ?_
  refine YM [(5,true,.own 0 0 b.length),(1,true,zV (iY n))] 1 [(0,some (.cells 5 1 (aB aO b) true true))] (by
    by_cases h1:n<0
    ·have h2:iY n=0:=by unfold iY;rw[if_pos (.inl h1)]
     refine aM ?_;exact⟨rfl,aG⟩
    by_cases h3:9007199254740991<n
    ·have h2:iY n=0:=by unfold iY;rw[if_pos (.inr h3)]
     refine aM ?_;exact⟨rfl,aG⟩
    ·have h2:(iY n:Int)=n:=by unfold iY;rw[if_neg oM];omega
     refine aM ?_
     exact⟨rfl,aG⟩) ?_
  refine aM ?_;refine P0 (α:=Out) (fun a=> [(5,true,a.o),(1,true,zV (a.n:Int))]) (fun a=>a.t) (KS b (iY n)) (fun a=>a.n) ⟨iY n,b,.own 0 0 b.length,[(0,some (.cells 5 1 (aB aO b) true true))]⟩ ⟨1,⟨gZ,rfl,.inr ⟨0,oM,rfl,rfl⟩⟩,aG⟩ ?_
 case' true=>
  have D5:b=[]:=by simpa using P2
  refine aM ?_
  refine YM [(5,true,.c (.slice none 0 0)),(1,true,zV (iY n))] 0 [] (by
    by_cases h1:n<0
    ·have h2:iY n=0:=by unfold iY;rw[if_pos (.inl h1)]
     refine aM ?_;exact⟨rfl,aG⟩
    by_cases h3:9007199254740991<n
    ·have h2:iY n=0:=by unfold iY;rw[if_pos (.inr h3)]
     refine aM ?_;exact⟨rfl,aG⟩
    ·have h2:(iY n:Int)=n:=by unfold iY;rw[if_neg oM];omega
     refine aM ?_
     exact⟨rfl,aG⟩) ?_
  refine aM ?_;refine P0 (α:=Out) (fun a=> [(5,true,a.o),(1,true,zV (a.n:Int))]) (fun a=>a.t) (KS b (iY n)) (fun a=>a.n) ⟨iY n,b,.c (.slice none 0 0),[]⟩ ⟨0,⟨gZ,rfl,.inl ⟨rfl,rfl,D5⟩⟩,aG⟩ ?_
 all_goals
   rintro m ⟨k,out,o,t⟩ ⟨hk,hinv,ho⟩;simp only[]at hk hinv ho⊢
   have hl:out.length<=100008:=by
    have h1:=congrArg List.length hinv;have h2:=OZ 7 (iY n) oM
    simp only[cU]at h1;omega
   by_cases h4:k<128
   ·have h5:¬(128:Int)<=k:=oM
    rw[KR h4]at hinv;have h6:b++aV n=out++[(k:Int)]:=hinv.symm;clear hinv;rw[h6];rcases ho with⟨rfl,rfl,rfl⟩|⟨id,aC,rfl,rfl⟩
    ·refine aM ?_
     exact cR
    ·refine aM ?_
     exact cR
   ·have h5:(128:Int)<=k:=oM
    rw[OY h4]at hinv;have h6:=Ji (x:=(k:Int) % 128) oM oM
    have h7:((k:Int)).tdiv 128=((k/128:Nat):Int):=rfl;have h8:(k:Int) % 128+128=((k % 128+128:Nat):Int):=oM
    have hs:KS b (iY n) (m+2) ⟨k/128,out++[((k % 128+128:Nat):Int)],.own (m+1) 0 (out++[((k % 128+128:Nat):Int)]).length,[(m+1,some (.cells 5 1 (aB aO (out++[((k % 128+128:Nat):Int)])) true true))]⟩:=
     ⟨by simp only[];omega,by simp only[];rw[nH];exact hinv,.inr ⟨m+1,oM,rfl,rfl⟩⟩
    clear hinv;rcases ho with⟨rfl,rfl,rfl⟩|⟨id,aC,rfl,rfl⟩
    ·refine aM ?_
     exact⟨m+2,_,by simp only[];omega,hs,aG⟩
    ·refine aM ?_
     exact⟨m+2,_,by simp only[];omega,hs,aG⟩
def gR(r:eD):List Int:=aV r.dY++aV r.dK++aV r.jM
theorem lR(n:Int):(aV n).length<=8:=OZ 7 _ (by have:=KT n;omega)
theorem ad1(r:eD):rP prog 85 [.cH [cC r] 0 0] (.own 0 0 (aB aO (gR r)).length) 5 1 (aB aO (gR r)) true:=by
 refine KU func85 ntmps85 (H5 _) ?_;unfold cC gR;have h1:=lR r.dY;have h2:=lR r.dK;have h3:=lR r.jM;have c0:=H6 r.dY;have c1:=BE (aV r.dY) r.dK oM
 have c2:=BE (aV r.dY++aV r.dK) r.jM (by simp;omega)
 simp only[sF]at c0;refine aM ?_;refine fZ 4 ?_;refine gD ?_;refine aM ?_;exact⟨20,eN,eN⟩
theorem ad2(r:eD):PC 96 [.agg (cC r)] (.snap (aB aO (gR r))):=by
 refine aZ func96 ntmps96 (gJ _) ?_;unfold cC gR;have h1:=lR r.dY;have h2:=lR r.dK;have c0:PC 168 [.c (.slice none 0 0),zV r.dY] (.snap (aB aO ([]++aV r.dY))):=eA.less (P1 [] r.dY (by simp)) (eE .nil (tY _))
 have c1:=P1 (aV r.dY) r.dK oM
 have c2:=P1 (aV r.dY++aV r.dK) r.jM (by simp;omega)
 simp only[sF]at c0;exact zEa
def tZ(p:List Int):List Int:=(p.length:Int)::(p++List.replicate (31-p.length) 0)
theorem Jj{p:List Int}(hp:p.length<=31):(tZ p).length=32:=by unfold tZ;simp;omega
theorem Jk{l:List Int}(h:l.length=32):∃d0 d1 d2 d3 d4 d5 d6 d7 d8 d9 d10 d11 d12 d13 d14 d15 d16 d17 d18 d19 d20 d21 d22 d23 d24 d25 d26 d27 d28 d29 d30 d31,l=[d0,d1,d2,d3,d4,d5,d6,d7,d8,d9,d10,d11,d12,d13,d14,d15,d16,d17,d18,d19,d20,d21,d22,d23,d24,d25,d26,d27,d28,d29,d30,d31]:=by
 match l,h with|[d0,d1,d2,d3,d4,d5,d6,d7,d8,d9,d10,d11,d12,d13,d14,d15,d16,d17,d18,d19,d20,d21,d22,d23,d24,d25,d26,d27,d28,d29,d30,d31],_=>exact⟨d0,d1,d2,d3,d4,d5,d6,d7,d8,d9,d10,d11,d12,d13,d14,d15,d16,d17,d18,d19,d20,d21,d22,d23,d24,d25,d26,d27,d28,d29,d30,d31,rfl⟩
theorem ad3{p:List Int}(hp:p.length<=31):[uV (p.length:Int)]::(aB aO (p.take (p.length.min 31))++(aB aO ((p.length:Int)::List.replicate 31 0)).drop (1+p.length.min 31))=aB aO (tZ p):=by
 have h1:p.length.min 31=p.length:=Yw hp;rw[h1,gP,Nat.add_comm,YN,List.drop_succ_cons,List.drop_replicate];simp only[tZ,aB,qE,CV,aO]
def gb(n:Int)(i:Nat):Int:=IntKind.u8.wrap (n.fdiv (2 ^ min (8*i) 64))
def yL(n:Int)(D:List Int)(k:Nat):aQ:=((gb n 0,gb n 1,gb n 2,gb n 3),(D.getD (4*k) 0,D.getD (4*k+1) 0,D.getD (4*k+2) 0,D.getD (4*k+3) 0))
def tD(n:Int)(p:List Int):List aQ:=[yL n (tZ p) 0,yL n (tZ p) 1,yL n (tZ p) 2,yL n (tZ p) 3,yL n (tZ p) 4,yL n (tZ p) 5,yL n (tZ p) 6,yL n (tZ p) 7]
theorem YO(n:Int)(p:List Int)(hp:p.length<=31):PC 161 [zV n,.snap (aB aO p)] (.agg [zV n,.snap (aB aO p),.snap (aB aP (tD n p))]):=by
 refine aZ func161 ntmps161 (by simp only[go_sem]) ?_
 have hd:=ad3 hp;have hz:aP bS=[uV 0,uV 0,uV 0,uV 0,uV 0,uV 0,uV 0,uV 0]:=by rfl
 refine aM ?_;refine eO func111 ntmps111 ?_;refine aM ?_;obtain⟨d0,d1,d2,d3,d4,d5,d6,d7,d8,d9,d10,d11,d12,d13,d14,d15,d16,d17,d18,d19,d20,d21,d22,d23,d24,d25,d26,d27,d28,d29,d30,d31,hD⟩:=Jk (Jj hp);rw[hD]at hd;refine kU (env:=[(25,true,.fn (.func 184) [] [.ptr 7 0 0,.ptr 8 0 0]),(6,true,.ptr 5 0 0),(4,true,.ptr 1 0 0),(2,true,.ptr 0 0 0)]) (H:=⟨9,bN [(0,some (.cells 3 1 [[zV n]] true false)),(1,some (.cells 265 3 [[.c (.int .i64 0),.c (.slice none 0 0),.c (.slice none 0 0)]] true false)),(2,some (.cells 5 1 [[uV d0],[uV d1],[uV d2],[uV d3],[uV d4],[uV d5],[uV d6],[uV d7],[uV d8],[uV d9],[uV d10],[uV d11],[uV d12],[uV d13],[uV d14],[uV d15],[uV d16],[uV d17],[uV d18],[uV d19],[uV d20],[uV d21],[uV d22],[uV d23],[uV d24],[uV d25],[uV d26],[uV d27],[uV d28],[uV d29],[uV d30],[uV d31]] true true)),(5,some (.cells 265 3 [[zV n,.snap (aB aO p),.c (.slice none 0 0)]] true false)),(7,some (.cells 77 1 [[.own 2 0 32]] true false)),(8,some (.cells 3 1 [[.c (.int .i64 4)]] true false))]⟩) ?_ ?_
 ·refine tE (by rfl) (tE (by rfl) (tE (by rfl) (tE (by rfl) (holds_nil (cA 9) (u1 (by rfl) (u1 (by rfl) (u1 ?_ (u1 (by rfl) (u1 (by rfl) (u1 (by rfl) BF))))))))))
  simp only[Jl,pN];exact congrArg (fun r=>some (aI.cells 5 1 r true true)) hd
 have hP:aB aP (tD n p)=[[.c (.int .u8 (IntKind.u8.wrap (n.fdiv (2 ^ min 0 64)))),.c (.int .u8 (IntKind.u8.wrap (n.fdiv (2 ^ min 8 64)))),.c (.int .u8 (IntKind.u8.wrap (n.fdiv (2 ^ min 16 64)))),.c (.int .u8 (IntKind.u8.wrap (n.fdiv (2 ^ min 24 64)))),uV d0,uV d1,uV d2,uV d3],[.c (.int .u8 (IntKind.u8.wrap (n.fdiv (2 ^ min 0 64)))),.c (.int .u8 (IntKind.u8.wrap (n.fdiv (2 ^ min 8 64)))),.c (.int .u8 (IntKind.u8.wrap (n.fdiv (2 ^ min 16 64)))),.c (.int .u8 (IntKind.u8.wrap (n.fdiv (2 ^ min 24 64)))),uV d4,uV d5,uV d6,uV d7],[.c (.int .u8 (IntKind.u8.wrap (n.fdiv (2 ^ min 0 64)))),.c (.int .u8 (IntKind.u8.wrap (n.fdiv (2 ^ min 8 64)))),.c (.int .u8 (IntKind.u8.wrap (n.fdiv (2 ^ min 16 64)))),.c (.int .u8 (IntKind.u8.wrap (n.fdiv (2 ^ min 24 64)))),uV d8,uV d9,uV d10,uV d11],[.c (.int .u8 (IntKind.u8.wrap (n.fdiv (2 ^ min 0 64)))),.c (.int .u8 (IntKind.u8.wrap (n.fdiv (2 ^ min 8 64)))),.c (.int .u8 (IntKind.u8.wrap (n.fdiv (2 ^ min 16 64)))),.c (.int .u8 (IntKind.u8.wrap (n.fdiv (2 ^ min 24 64)))),uV d12,uV d13,uV d14,uV d15],[.c (.int .u8 (IntKind.u8.wrap (n.fdiv (2 ^ min 0 64)))),.c (.int .u8 (IntKind.u8.wrap (n.fdiv (2 ^ min 8 64)))),.c (.int .u8 (IntKind.u8.wrap (n.fdiv (2 ^ min 16 64)))),.c (.int .u8 (IntKind.u8.wrap (n.fdiv (2 ^ min 24 64)))),uV d16,uV d17,uV d18,uV d19],[.c (.int .u8 (IntKind.u8.wrap (n.fdiv (2 ^ min 0 64)))),.c (.int .u8 (IntKind.u8.wrap (n.fdiv (2 ^ min 8 64)))),.c (.int .u8 (IntKind.u8.wrap (n.fdiv (2 ^ min 16 64)))),.c (.int .u8 (IntKind.u8.wrap (n.fdiv (2 ^ min 24 64)))),uV d20,uV d21,uV d22,uV d23],[.c (.int .u8 (IntKind.u8.wrap (n.fdiv (2 ^ min 0 64)))),.c (.int .u8 (IntKind.u8.wrap (n.fdiv (2 ^ min 8 64)))),.c (.int .u8 (IntKind.u8.wrap (n.fdiv (2 ^ min 16 64)))),.c (.int .u8 (IntKind.u8.wrap (n.fdiv (2 ^ min 24 64)))),uV d24,uV d25,uV d26,uV d27],[.c (.int .u8 (IntKind.u8.wrap (n.fdiv (2 ^ min 0 64)))),.c (.int .u8 (IntKind.u8.wrap (n.fdiv (2 ^ min 8 64)))),.c (.int .u8 (IntKind.u8.wrap (n.fdiv (2 ^ min 16 64)))),.c (.int .u8 (IntKind.u8.wrap (n.fdiv (2 ^ min 24 64)))),uV d28,uV d29,uV d30,uV d31]]:=by
  unfold tD yL gb;rw[hD];rfl
 clear hd hD;refine TN func184 ntmps184 (fun R A B hR hA hB=> ?_)
 refine aM ?_;refine fZ 9 ?_;refine gD ?_;refine aM ?_;refine fZ 5 ?_;refine gD ?_;refine aM ?_;refine fZ 5 ?_;refine gD ?_;refine aM ?_;refine fZ 5 ?_;refine gD ?_;refine aM ?_;refine fZ 5 ?_;refine gD ?_;refine aM ?_;refine fZ 5 ?_;refine gD ?_;refine aM ?_;refine fZ 5 ?_;refine gD ?_;refine aM ?_;refine fZ 5 ?_
 refine gD ?_;refine aM ?_;refine fZ 5 ?_;refine gD ?_;exact zEa
def bZ(x:Int):Prop:=0<=x/\x<256
def Jm(s:aQ):Prop:=bZ s.1.1/\bZ s.1.2.1/\bZ s.1.2.2.1/\bZ s.1.2.2.2
def kV(s:aQ):Int:=s.1.1+256*s.1.2.1+65536*s.1.2.2.1+16777216*s.1.2.2.2
theorem two32:(2:Int) ^ 32=4294967296:=by decide
theorem TO{i:Nat}{x y:Int}(h0:0<=x)(hx:x % 2 ^ i=0)(h1:x<4294967296)(h2:0<=y)(h3:y<2 ^ i)(h4:y<4294967296):bits .or .i64 x y=x+y:=
 bits_join .i64 32 dE (fun n a b=>IntWalk.i64_in _ (by have:=two32;omega)) i x y h0 hx (by have:=two32;omega) h2 h3 (by have:=two32;omega)
theorem KV(s:aQ)(h:Jm s):PC 254 [.agg (aP s)] (zV (kV s)):=by
 refine aZ func254 ntmps254 (.c _) ?_;obtain⟨⟨a,b,c,d⟩,x1,x2,x3,x4⟩:=s;have hs:aP ((a,b,c,d),x1,x2,x3,x4)=[uV a,uV b,uV c,uV d,uV x1,uV x2,uV x3,uV x4]:=rfl;obtain⟨⟨a0,a1⟩,⟨b0,b1⟩,⟨c0,c1⟩,⟨d0,d1⟩⟩:=h;simp only[]at a0 a1 b0 b1 c0 c1 d0 d1;have p8:(2:Int) ^ 8=256:=by decide
 have pm:(2:Int) ^ min 8 64=256:=by decide
 have e1:bits .or .i64 (0*2 ^ min 8 64) d=d:=by
  rw[TO (i:=8) oM oM oM d0 oM oM];omega
 have e2:IntKind.i64.wrap (d*2 ^ min 8 64)=d*256:=by rw[pm];exact IntWalk.i64_in _ oM
 have e3:bits .or .i64 (d*256) c=d*256+c:=TO (i:=8) oM oM oM c0 oM oM
 have e4:IntKind.i64.wrap ((d*256+c)*2 ^ min 8 64)=(d*256+c)*256:=by rw[pm];exact IntWalk.i64_in _ oM
 have e5:bits .or .i64 ((d*256+c)*256) b=(d*256+c)*256+b:=TO (i:=8) oM oM oM b0 oM oM
 have e6:IntKind.i64.wrap (((d*256+c)*256+b)*2 ^ min 8 64)=((d*256+c)*256+b)*256:=by rw[pm];exact IntWalk.i64_in _ oM
 have e7:bits .or .i64 (((d*256+c)*256+b)*256) a=kV ((a,b,c,d),x1,x2,x3,x4):=by
  rw[TO (i:=8) oM oM oM a0 oM oM]
  simp only[kV];omega
 clear p8 pm;refine aM ?_;refine fZ 5 ?_;refine gD ?_;exact zEa
def cp(p:List Int)(k:Nat):List Int:=(p.length:Int)::(p.take k++List.replicate (31-k) 0)
theorem ad4{p:List Int}{k:Nat}(h:k<p.length)(hp:p.length<=31):(cp p k).set (k+1) (p.getD k 0)=cp p (k+1):=by
 unfold cp;have e:(p.take k).length=k:=by rw[dX];omega
 rw[Yx,List.set_append_right _ _ oM,e,B7,CS h,show 31-k=(31-(k+1))+1 by omega,Ia,Yy]
 simp only[rL,gY h,yH,nH,Y1]
theorem ad5{p:List Int}{k:Nat}(h:k<=p.length)(hp:p.length<=31):(cp p k).length=32:=by
 unfold cp;simp;omega
theorem ad6{p:List Int}:cp p p.length=tZ p:=by unfold cp tZ;rw[gP]
def rQ:Nat->Nat->AV
 |0,_=> .c (.slice none 0 0)
 |k+1,id=> .own id 0 (k+1)
def pO:Nat->Nat->List (List AV)->List (Nat×Option aI)
 |0,_,_=> []
 |k+1,id,l=> [(id,some (.cells 67 8 (l.take (k+1)) true true))]
theorem ad7(n:Int)(p:List Int)(hp:p.length<=31):PC 167 [.c (.int .u32 n),.snap (aB aO p)] (.snap (aB aP (tD n p))):=by
 refine aZ func167 ntmps167 (gJ _) ?_;have hg:=gB p;have hw:IntKind.u8.wrap (p.length:Int)=p.length:=by rw[IntKind.wrap_u8];omega
 have w0:IntKind.u64.wrap 0=0:=by rfl
 have w8:IntKind.u64.wrap 8=8:=by rfl
 have w16:IntKind.u64.wrap 16=16:=by rfl
 have w24:IntKind.u64.wrap 24=24:=by rfl
 have hz:aP bS=[uV 0,uV 0,uV 0,uV 0,uV 0,uV 0,uV 0,uV 0]:=by rfl
 have BG:aB aO (cp p 0)=[[uV (p.length:Int)],[uV 0],[uV 0],[uV 0],[uV 0],[uV 0],[uV 0],[uV 0],[uV 0],[uV 0],[uV 0],[uV 0],[uV 0],[uV 0],[uV 0],[uV 0],[uV 0],[uV 0],[uV 0],[uV 0],[uV 0],[uV 0],[uV 0],[uV 0],[uV 0],[uV 0],[uV 0],[uV 0],[uV 0],[uV 0],[uV 0],[uV 0]]:=by rfl
 refine aM ?_;refine dC (α:=Unit) p.length (fun k _=> [(6,true,zV k),(5,true,.own 0 0 32),(4,true,.c (.slice none 0 0)),(0,true,.c (.int .u32 n)),(1,true,.snap (aB aO p))]) (fun k _=> [(0,some (.cells 5 1 (aB aO (cp p k)) true true))]) (fun _ m _=>2<=m) ⟨2,(),cA _,?_⟩ (fun k m _ hk hm=> ?_) (fun m _ hm=> ?_)
 ·rw[BG]
  exact aG
 ·have h1:=ad4 hk hp
  have h2:=ad5 (Y2 hk) hp;have h3:=gB (cp p k);refine aM ?_;exact⟨m+1,(),oM,aG⟩
 ·rw[ad6]
  obtain⟨d0,d1,d2,d3,d4,d5,d6,d7,d8,d9,d10,d11,d12,d13,d14,d15,d16,d17,d18,d19,d20,d21,d22,d23,d24,d25,d26,d27,d28,d29,d30,d31,hD⟩:=Jk (Jj hp)
  have hP:aB aP (tD n p)=[[.c (.int .u8 (IntKind.u8.wrap (n.fdiv (2 ^ min 0 32)))),.c (.int .u8 (IntKind.u8.wrap (n.fdiv (2 ^ min 8 32)))),.c (.int .u8 (IntKind.u8.wrap (n.fdiv (2 ^ min 16 32)))),.c (.int .u8 (IntKind.u8.wrap (n.fdiv (2 ^ min 24 32)))),uV d0,uV d1,uV d2,uV d3],[.c (.int .u8 (IntKind.u8.wrap (n.fdiv (2 ^ min 0 32)))),.c (.int .u8 (IntKind.u8.wrap (n.fdiv (2 ^ min 8 32)))),.c (.int .u8 (IntKind.u8.wrap (n.fdiv (2 ^ min 16 32)))),.c (.int .u8 (IntKind.u8.wrap (n.fdiv (2 ^ min 24 32)))),uV d4,uV d5,uV d6,uV d7],[.c (.int .u8 (IntKind.u8.wrap (n.fdiv (2 ^ min 0 32)))),.c (.int .u8 (IntKind.u8.wrap (n.fdiv (2 ^ min 8 32)))),.c (.int .u8 (IntKind.u8.wrap (n.fdiv (2 ^ min 16 32)))),.c (.int .u8 (IntKind.u8.wrap (n.fdiv (2 ^ min 24 32)))),uV d8,uV d9,uV d10,uV d11],[.c (.int .u8 (IntKind.u8.wrap (n.fdiv (2 ^ min 0 32)))),.c (.int .u8 (IntKind.u8.wrap (n.fdiv (2 ^ min 8 32)))),.c (.int .u8 (IntKind.u8.wrap (n.fdiv (2 ^ min 16 32)))),.c (.int .u8 (IntKind.u8.wrap (n.fdiv (2 ^ min 24 32)))),uV d12,uV d13,uV d14,uV d15],[.c (.int .u8 (IntKind.u8.wrap (n.fdiv (2 ^ min 0 32)))),.c (.int .u8 (IntKind.u8.wrap (n.fdiv (2 ^ min 8 32)))),.c (.int .u8 (IntKind.u8.wrap (n.fdiv (2 ^ min 16 32)))),.c (.int .u8 (IntKind.u8.wrap (n.fdiv (2 ^ min 24 32)))),uV d16,uV d17,uV d18,uV d19],[.c (.int .u8 (IntKind.u8.wrap (n.fdiv (2 ^ min 0 32)))),.c (.int .u8 (IntKind.u8.wrap (n.fdiv (2 ^ min 8 32)))),.c (.int .u8 (IntKind.u8.wrap (n.fdiv (2 ^ min 16 32)))),.c (.int .u8 (IntKind.u8.wrap (n.fdiv (2 ^ min 24 32)))),uV d20,uV d21,uV d22,uV d23],[.c (.int .u8 (IntKind.u8.wrap (n.fdiv (2 ^ min 0 32)))),.c (.int .u8 (IntKind.u8.wrap (n.fdiv (2 ^ min 8 32)))),.c (.int .u8 (IntKind.u8.wrap (n.fdiv (2 ^ min 16 32)))),.c (.int .u8 (IntKind.u8.wrap (n.fdiv (2 ^ min 24 32)))),uV d24,uV d25,uV d26,uV d27],[.c (.int .u8 (IntKind.u8.wrap (n.fdiv (2 ^ min 0 32)))),.c (.int .u8 (IntKind.u8.wrap (n.fdiv (2 ^ min 8 32)))),.c (.int .u8 (IntKind.u8.wrap (n.fdiv (2 ^ min 16 32)))),.c (.int .u8 (IntKind.u8.wrap (n.fdiv (2 ^ min 24 32)))),uV d28,uV d29,uV d30,uV d31]]:=by
   unfold tD yL gb;rw[hD];rfl
  rw[hD];have hE:aB aO [d0,d1,d2,d3,d4,d5,d6,d7,d8,d9,d10,d11,d12,d13,d14,d15,d16,d17,d18,d19,d20,d21,d22,d23,d24,d25,d26,d27,d28,d29,d30,d31]=[[uV d0],[uV d1],[uV d2],[uV d3],[uV d4],[uV d5],[uV d6],[uV d7],[uV d8],[uV d9],[uV d10],[uV d11],[uV d12],[uV d13],[uV d14],[uV d15],[uV d16],[uV d17],[uV d18],[uV d19],[uV d20],[uV d21],[uV d22],[uV d23],[uV d24],[uV d25],[uV d26],[uV d27],[uV d28],[uV d29],[uV d30],[uV d31]]:=rfl
  rw[hE];clear hE hD BG;refine aM ?_;refine dC (α:=Nat) 8 (fun k id=> [(8,true,.c (.int .i64 (4*(k:Int)))),(7,true,rQ k id),(5,true,.own 0 0 32),(0,true,.c (.int .u32 n)),(1,true,.snap (aB aO p))]) (fun k id=>(0,some (.cells 5 1 [[uV d0],[uV d1],[uV d2],[uV d3],[uV d4],[uV d5],[uV d6],[uV d7],[uV d8],[uV d9],[uV d10],[uV d11],[uV d12],[uV d13],[uV d14],[uV d15],[uV d16],[uV d17],[uV d18],[uV d19],[uV d20],[uV d21],[uV d22],[uV d23],[uV d24],[uV d25],[uV d26],[uV d27],[uV d28],[uV d29],[uV d30],[uV d31]] true true))::pO k id (aB aP (tD n p))) (fun k m id=>2<=m/\0<id/\id<m) ⟨m,1,?_,?_⟩ (fun k m id hk hm=> ?_) (fun m id hm=> ?_)
  ·exact⟨hm,oM,oM⟩
  ·simp only[rQ,pO]
   exact aG
  ·rw[hP]
   obtain⟨r6,wG,KW⟩:=hm
   match k,hk with
   |0,_=>
    simp only[rQ,pO,List.take];refine aM ?_;refine fZ 5 ?_;refine gD ?_;refine aM ?_;refine⟨m+11,m+10,⟨oM,oM,oM⟩,?_⟩
    simp only[rQ,pO,List.take];exact aG
   |1,_=>
    simp only[rQ,pO,List.take];refine aM ?_;refine fZ 5 ?_;refine gD ?_;refine aM ?_;refine⟨m+11,m+10,⟨oM,oM,oM⟩,?_⟩
    simp only[rQ,pO,List.take];exact aG
   |2,_=>
    simp only[rQ,pO,List.take];refine aM ?_;refine fZ 5 ?_;refine gD ?_;refine aM ?_;refine⟨m+11,m+10,⟨oM,oM,oM⟩,?_⟩
    simp only[rQ,pO,List.take];exact aG
   |3,_=>
    simp only[rQ,pO,List.take];refine aM ?_;refine fZ 5 ?_;refine gD ?_;refine aM ?_;refine⟨m+11,m+10,⟨oM,oM,oM⟩,?_⟩
    simp only[rQ,pO,List.take];exact aG
   |4,_=>
    simp only[rQ,pO,List.take];refine aM ?_;refine fZ 5 ?_;refine gD ?_;refine aM ?_;refine⟨m+11,m+10,⟨oM,oM,oM⟩,?_⟩
    simp only[rQ,pO,List.take];exact aG
   |5,_=>
    simp only[rQ,pO,List.take];refine aM ?_;refine fZ 5 ?_;refine gD ?_;refine aM ?_;refine⟨m+11,m+10,⟨oM,oM,oM⟩,?_⟩
    simp only[rQ,pO,List.take];exact aG
   |6,_=>
    simp only[rQ,pO,List.take];refine aM ?_;refine fZ 5 ?_;refine gD ?_;refine aM ?_;refine⟨m+11,m+10,⟨oM,oM,oM⟩,?_⟩
    simp only[rQ,pO,List.take];exact aG
   |7,_=>
    simp only[rQ,pO,List.take];refine aM ?_;refine fZ 5 ?_;refine gD ?_;refine aM ?_;refine⟨m+11,m+10,⟨oM,oM,oM⟩,?_⟩
    simp only[rQ,pO,List.take];exact aG
  ·simp only[rQ,pO]
   rw[hP];obtain⟨r6,wG,KW⟩:=hm;exact zEa
theorem gS(l:List aQ)(k:Nat)(h:k<l.length):(aB aP l)[k]? =some (aP (l.getD k bS)):=tB bS h
def d4(s:aQ):List Int:=[s.2.1,s.2.2.1,s.2.2.2.1,s.2.2.2.2]
def rR(l:List aQ):List Int:=l.flatMap d4
def kL(s:aQ):Prop:=Jm s/\∀x∈d4 s,bZ x
@[go_sem] theorem bR8(s:aQ):List.map (fun x=> [x]) (List.take 4 (List.drop 4 (aP s)))=aB aO (d4 s):=rfl
@[go_sem] theorem bR9(s:aQ):(d4 s).length=4:=rfl
@[go_sem] theorem bS0(s:aQ):(d4 s).isEmpty=false:=rfl
theorem ad8{l:List aQ}{k:Nat}(h:k<l.length):aB aO (rR (l.take k))++aB aO (d4 (l.getD k bS))=aB aO (rR (l.take (k+1))):=by
 rw[CS h];simp only[rR,Yz,Za,Y3,v7,aB,CV,rL,gY h,yH]
theorem TP:∀(l:List aQ),(rR l).length=4*l.length
 |[]=>rfl
 |s::l=>by
  have:=TP l;simp only[rR,Za,cU,iQ]at this⊢;rw[this];simp[d4];omega
def oV:Nat->Nat->AV
 |0,_=> .c (.slice none 0 0)
 |k+1,id=> .own id 0 (4*(k+1))
def oT:Nat->Nat->List Int->List (Nat×Option aI)
 |0,_,_=> []
 |k+1,id,D=> [(id,some (.cells 5 1 (aB aO D) true true))]
def P3(l:List aQ):Bool:=l.all fun s=>kV s==kV (l.getD 0 bS)
def fF(l:List aQ):List Int×Int:=
 if P3 l=true then
  if 31<(rR l).getD 0 0 then([],0)
  else if((rR l).drop (((rR l).getD 0 0).toNat+1)).all (fun x=>x==0)=true then(((rR l).drop 1).take ((rR l).getD 0 0).toNat,kV (l.getD 0 bS))else([],0)
 else([],0)
theorem ad9:PC 166 [] (zV 31):=by
 refine aZ func166 ntmps166 (.c _) ?_;exact zEa
end Go.Proofs.YtpaomccedbjknaaGreatDoor
