/- Part of a proof. -/
import Derived.Test.YtgblgbgjmgjfkaaGreatJ

open List renaming length->Q
open Option renaming some->Z
open Bool renaming true->Y,false->X
open Decidable renaming decide->V
open List renaming getD_eq_getElem?_getD->aay,getElem_mem->aah
set_option maxRecDepth 100000
set_option maxHeartbeats 8000000
namespace iA
open Ax Go aM dW
def vZ(b c n a:Bool)(i:ID):Bool:=(b||decide (i.b=0))&&(c||decide (i.c=0))&&(n||decide (i.n=0))&&(a||decide ((Q (dI i.args):Int)=0))
def eA(i:ID):Bool:=
 if i.op=1\/i.op=11\/i.op=19\/i.op=20 then vZ X X Y X i else
 if i.op=3\/i.op=10 then vZ Y X X X i else
 if i.op=4 then vZ Y Y Y X i else
 if i.op=5\/i.op=12 then vZ Y X Y X i else
 if i.op=6\/i.op=7\/i.op=8\/i.op=9 then vZ Y Y X X i else
 if i.op=13 then vZ X Y X Y i else
 if i.op=17 then vZ X Y Y X i else
 if i.op=16 then V (i.a=0)&&V (i.b=0)&&V (i.c=0)&&V ((Q (dI i.args):Int)=0) else
 vZ X X X X i
theorem aes(W r:Nat)(i:ID)(st:aO)(o:mX i.args=Y)(E:cL i.args=Y):
  (bh S).call W r 95 [eM i] st=Z (.bool (eA i),st):=by
 have j:=dY o;have p:=bQ E j;have H:=cC o;refine bu (sf:=xF) rfl rfl (by simp[eM,j]) rfl (by simp) ?_;unfold eM;by_cases g:i.op=1
 skip
 cases C:V (i.b=0) with
 |true=>
  cases c1:V (i.c=0) with
  |true=>
   simp[xF,j,p,H,eA,vZ,g,C,c1]
  |false=>
   simp[xF,j,eA,vZ,g,C,c1]
 |false=>
  simp[xF,j,eA,vZ,g,C]
 skip
 by_cases F:i.op=11
 skip
 cases C:V (i.b=0) with
 |true=>
  cases c1:V (i.c=0) with
  |true=>
   simp[xF,j,p,H,eA,vZ,F,C,c1]
  |false=>
   simp[xF,j,eA,vZ,F,C,c1]
 |false=>
  simp[xF,j,eA,vZ,F,C]
 skip
 by_cases x:i.op=19
 skip
 cases C:V (i.b=0) with
 |true=>
  cases c1:V (i.c=0) with
  |true=>
   simp[xF,j,p,H,eA,vZ,x,C,c1]
  |false=>
   simp[xF,j,eA,vZ,x,C,c1]
 |false=>
  simp[xF,j,eA,vZ,x,C]
 skip
 by_cases z:i.op=20
 skip
 cases C:V (i.b=0) with
 |true=>
  cases c1:V (i.c=0) with
  |true=>
   simp[xF,j,p,H,eA,vZ,z,C,c1]
  |false=>
   simp[xF,j,eA,vZ,z,C,c1]
 |false=>
  simp[xF,j,eA,vZ,z,C]
 skip
 by_cases l:i.op=3
 skip
 cases C:V (i.c=0) with
 |true=>
  cases c1:V (i.n=0) with
  |true=>
   simp[xF,j,p,H,eA,vZ,l,C,c1]
  |false=>
   simp[xF,j,eA,vZ,l,C,c1]
 |false=>
  simp[xF,j,eA,vZ,l,C]
 skip
 by_cases h:i.op=10
 skip
 cases C:V (i.c=0) with
 |true=>
  cases c1:V (i.n=0) with
  |true=>
   simp[xF,j,p,H,eA,vZ,h,C,c1]
  |false=>
   simp[xF,j,eA,vZ,h,C,c1]
 |false=>
  simp[xF,j,eA,vZ,h,C]
 skip
 by_cases m:i.op=4
 skip
 simp[xF,j,p,H,eA,vZ,m]
 skip
 by_cases O:i.op=5
 skip
 cases C:V (i.c=0) with
 |true=>
  simp[xF,j,p,H,eA,vZ,O,C]
 |false=>
  simp[xF,j,eA,vZ,O,C]
 skip
 by_cases t:i.op=12
 skip
 cases C:V (i.c=0) with
 |true=>
  simp[xF,j,p,H,eA,vZ,t,C]
 |false=>
  simp[xF,j,eA,vZ,t,C]
 skip
 by_cases k:i.op=6
 skip
 cases C:V (i.n=0) with
 |true=>
  simp[xF,j,p,H,eA,vZ,k,C]
 |false=>
  simp[xF,j,eA,vZ,k,C]
 skip
 by_cases N:i.op=7
 skip
 cases C:V (i.n=0) with
 |true=>
  simp[xF,j,p,H,eA,vZ,N,C]
 |false=>
  simp[xF,j,eA,vZ,N,C]
 skip
 by_cases q:i.op=8
 skip
 cases C:V (i.n=0) with
 |true=>
  simp[xF,j,p,H,eA,vZ,q,C]
 |false=>
  simp[xF,j,eA,vZ,q,C]
 skip
 by_cases s:i.op=9
 skip
 cases C:V (i.n=0) with
 |true=>
  simp[xF,j,p,H,eA,vZ,s,C]
 |false=>
  simp[xF,j,eA,vZ,s,C]
 skip
 by_cases w:i.op=13
 skip
 cases C:V (i.b=0) with
 |true=>
  cases c1:V (i.n=0) with
  |true=>
   simp[xF,j,eA,vZ,w,C,c1]
  |false=>
   simp[xF,j,eA,vZ,w,C,c1]
 |false=>
  simp[xF,j,eA,vZ,w,C]
 skip
 by_cases v:i.op=17
 skip
 cases C:V (i.b=0) with
 |true=>
  simp[xF,j,p,H,eA,vZ,v,C]
 |false=>
  simp[xF,j,eA,vZ,v,C]
 skip
 by_cases y:i.op=16
 skip
 cases C:V (i.a=0) with
 |true=>
  cases c1:V (i.b=0) with
  |true=>
   cases c2:V (i.c=0) with
   |true=>
    simp[xF,j,p,H,eA,y,C,c1,c2]
   |false=>
    simp[xF,j,eA,y,C,c1,c2]
  |false=>
   simp[xF,j,eA,y,C,c1]
 |false=>
  simp[xF,j,eA,y,C]
 skip
 cases C:V (i.b=0) with
 |true=>
  cases c1:V (i.c=0) with
  |true=>
   cases c2:V (i.n=0) with
   |true=>
    simp[xF,j,p,H,eA,vZ,g,F,x,z,l,h,m,O,t,k,N,q,s,w,v,y,C,c1,c2]
   |false=>
    simp[xF,j,eA,vZ,g,F,x,z,l,h,m,O,t,k,N,q,s,w,v,y,C,c1,c2]
  |false=>
   simp[xF,j,eA,vZ,g,F,x,z,l,h,m,O,t,k,N,q,s,w,v,y,C,c1]
 |false=>
  simp[xF,j,eA,vZ,g,F,x,z,l,h,m,O,t,k,N,q,s,w,v,y,C]
theorem dX(wl ai:Nat)(st:aO):(bh S).call wl ai 97 [] st=Z (.agg [.int .i64 1,.int .i64 0,.int .i64 0],st):=by
 refine bu (sf:=s97) rfl rfl rfl rfl rfl ?_;simp[s97]
theorem dK(wl ai:Nat)(st:aO):(bh S).call wl ai 98 [] st=Z (.agg [.int .i64 2,.int .i64 0,.int .i64 0],st):=by
 refine bu (sf:=s98) rfl rfl rfl rfl rfl ?_;simp[s98]
def oo(n:Int)(a b d:T3):Bool:=
 if n=14\/n=15\/n=16\/n=17\/n=18 then iV a ⟨1,0,0⟩&&iV b ⟨1,0,0⟩&&iV d ⟨1,0,0⟩ else
 if n=19\/n=20 then iV a ⟨2,0,0⟩&&iV b ⟨1,0,0⟩&&iV d ⟨1,0,0⟩ else
 if n=21\/n=22 then iV a ⟨2,0,0⟩ && !iV b ⟨0,0,0⟩&&iV b d else
 if n=23\/n=24 then iV a ⟨2,0,0⟩&&iV b ⟨2,0,0⟩&&iV d ⟨2,0,0⟩ else X
theorem ZP(w l:Nat)(n:Int)(a b d:T3)(st:aO):
  (bh S).call w l 99 [.int .i64 n,.agg [.int .i64 a.b,.int .i64 a.r,.int .i64 a.d],.agg [.int .i64 b.b,.int .i64 b.r,.int .i64 b.d],.agg [.int .i64 d.b,.int .i64 d.r,.int .i64 d.d]] st=Z (.bool (oo n a b d),st):=by
 refine bu (sf:=Bx) rfl rfl (by simp) rfl (by simp) ?_;by_cases h:n=14
 skip
 cases C:iV a ⟨1,0,0⟩ with
 |true=>
  cases c1:iV b ⟨1,0,0⟩ with
  |true=>
   simp[Bx,aA,ay,dX,oo,h,C,c1]
  |false=>
   simp[Bx,aA,ay,dX,oo,h,C,c1]
 |false=>
  simp[Bx,aA,ay,dX,oo,h,C]
 skip
 by_cases j:n=15
 skip
 cases C:iV a ⟨1,0,0⟩ with
 |true=>
  cases c1:iV b ⟨1,0,0⟩ with
  |true=>
   simp[Bx,aA,ay,dX,oo,j,C,c1]
  |false=>
   simp[Bx,aA,ay,dX,oo,j,C,c1]
 |false=>
  simp[Bx,aA,ay,dX,oo,j,C]
 skip
 by_cases y:n=16
 skip
 cases C:iV a ⟨1,0,0⟩ with
 |true=>
  cases c1:iV b ⟨1,0,0⟩ with
  |true=>
   simp[Bx,aA,ay,dX,oo,y,C,c1]
  |false=>
   simp[Bx,aA,ay,dX,oo,y,C,c1]
 |false=>
  simp[Bx,aA,ay,dX,oo,y,C]
 skip
 by_cases v:n=17
 skip
 cases C:iV a ⟨1,0,0⟩ with
 |true=>
  cases c1:iV b ⟨1,0,0⟩ with
  |true=>
   simp[Bx,aA,ay,dX,oo,v,C,c1]
  |false=>
   simp[Bx,aA,ay,dX,oo,v,C,c1]
 |false=>
  simp[Bx,aA,ay,dX,oo,v,C]
 skip
 by_cases B:n=18
 skip
 cases C:iV a ⟨1,0,0⟩ with
 |true=>
  cases c1:iV b ⟨1,0,0⟩ with
  |true=>
   simp[Bx,aA,ay,dX,oo,B,C,c1]
  |false=>
   simp[Bx,aA,ay,dX,oo,B,C,c1]
 |false=>
  simp[Bx,aA,ay,dX,oo,B,C]
 skip
 by_cases x:n=19
 skip
 cases C:iV a ⟨2,0,0⟩ with
 |true=>
  cases c1:iV b ⟨1,0,0⟩ with
  |true=>
   simp[Bx,aA,ay,dX,dK,oo,x,C,c1]
  |false=>
   simp[Bx,aA,ay,dX,dK,oo,x,C,c1]
 |false=>
  simp[Bx,aA,ay,dK,oo,x,C]
 skip
 by_cases z:n=20
 skip
 cases C:iV a ⟨2,0,0⟩ with
 |true=>
  cases c1:iV b ⟨1,0,0⟩ with
  |true=>
   simp[Bx,aA,ay,dX,dK,oo,z,C,c1]
  |false=>
   simp[Bx,aA,ay,dX,dK,oo,z,C,c1]
 |false=>
  simp[Bx,aA,ay,dK,oo,z,C]
 skip
 by_cases N:n=21
 skip
 cases E:iV a ⟨2,0,0⟩ with
 |true=>
  cases g:iV b ⟨0,0,0⟩ with
  |true=>
   simp[Bx,aA,ay,dK,oo,N,E,g]
  |false=>
   simp[Bx,aA,ay,dK,oo,N,E,g]
 |false=>
  simp[Bx,aA,ay,dK,oo,N,E]
 skip
 by_cases k:n=22
 skip
 cases E:iV a ⟨2,0,0⟩ with
 |true=>
  cases g:iV b ⟨0,0,0⟩ with
  |true=>
   simp[Bx,aA,ay,dK,oo,k,E,g]
  |false=>
   simp[Bx,aA,ay,dK,oo,k,E,g]
 |false=>
  simp[Bx,aA,ay,dK,oo,k,E]
 skip
 by_cases m:n=23
 skip
 cases C:iV a ⟨2,0,0⟩ with
 |true=>
  cases c1:iV b ⟨2,0,0⟩ with
  |true=>
   simp[Bx,aA,ay,dK,oo,m,C,c1]
  |false=>
   simp[Bx,aA,ay,dK,oo,m,C,c1]
 |false=>
  simp[Bx,aA,ay,dK,oo,m,C]
 skip
 by_cases U:n=24
 skip
 cases C:iV a ⟨2,0,0⟩ with
 |true=>
  cases c1:iV b ⟨2,0,0⟩ with
  |true=>
   simp[Bx,aA,ay,dK,oo,U,C,c1]
  |false=>
   simp[Bx,aA,ay,dK,oo,U,C,c1]
 |false=>
  simp[Bx,aA,ay,dK,oo,U,C]
 skip
 simp[Bx,oo,h,j,y,v,B,x,z,N,k,m,U]
theorem AO(wl ai:Nat)(a b c:Int)(st:aO):
  (bh S).call wl ai 44 [.agg [.int .i64 a,.int .i64 b,.int .i64 c]] st=Z (.bool (lS ⟨a,b,c⟩),st):=by
 refine bu (sf:=s44) rfl rfl (by simp) rfl (by simp) ?_;unfold lS;by_cases h:a=3;simp[s44,h];simp[s44,h]
theorem Xq(C g:Nat)(t:T3)(st:aO)(B:0<t.d)(H:sQ t.d=Y):
  (bh S).call C g 101 [.agg [.int .i64 t.b,.int .i64 t.r,.int .i64 t.d]] st=Z (.agg [.int .i64 t.b,.int .i64 t.r,.int .i64 (t.d-1)],st):=by
 have h:IntKind.i64.wrap (t.d-1)=t.d-1:=by
  simp only[sQ,Bool.and_eq_true,aC]at H;rw[dg]<;>omega
 refine bu (sf:=amt) rfl rfl (by simp) rfl (by simp) ?_;simp[amt,h]
def MY(c:CD):AV:=.agg [.int .i64 c.params,c.vars,.bool c.bY,.int .i64 c.res.b,.int .i64 c.res.r,.int .i64 c.res.d,c.fZ]
theorem PA(C g:Nat){c:CD}(n:Int)(st:aO)(y:yJ c.vars=Y)(j:IN c.fZ=Y):
  (bh S).call C g 96 [MY c,.int .i64 n] st=Z (.agg (jk (cx c.vars) n).cells,st):=by
 have P:=lR y;have O:=kQ y;have F:=sF j;have J:=pZ j;have p:=dV P;have h:=dV F;refine bu (sf:=s96) rfl rfl (by simp[MY,p,h]) rfl (by simp) ?_;by_cases B:n<0;have e:jk (cx c.vars) n=T0:=by unfold jk;rw[ah]
 simp[s96,MY,P,F,B,e];obtain⟨k,rfl⟩:∃k:Nat,n=k:=⟨n.toNat,by omega⟩;by_cases m:k<Q (cx c.vars);have e:jk (cx c.vars) k=(cx c.vars)[k]:=by simp[jk,aay,m]
 have x:¬(Q (cx c.vars):Int)<=(k:Int):=by omega
 simp[s96,MY,O,F,B,y,fA y,e,m,x];have e:jk (cx c.vars) k=T0:=by simp[jk,aay,List.getElem?_eq_none (Nat.le_of_not_lt m)]
 have x:(Q (cx c.vars):Int)<=(k:Int):=by omega
 simp[s96,MY,O,F,B,y,fA y,e,x]
def ZQ(S:List SD)(f n:Int)(t:T3):Bool:=match jq S n with|some s=>decide (s.fn=f)&&iV s.t t|none=>X
theorem aet(C g:Nat){x:XD}(f n:Int)(t:T3)(st:aO)(l:x.ok):
  (bh S).call C g 102 [fy x,.int .i64 f,.int .i64 n,.agg [.int .i64 t.b,.int .i64 t.r,.int .i64 t.d]] st=Z (.bool (ZQ (lU x.aI) f n t),st):=by
 have j:=l.sl;have p:=l.aI;refine bu (sf:=YM) rfl rfl (by simp[l.pure]) rfl (by simp) ?_;unfold ZQ;cases U:jq (lU x.aI) n with
 |none=>
  rcases jL U with B|⟨B,v⟩;have q:¬0<=n:=by omega
  simp[YM,fy,j,q,aA,ay];have o:¬n<(Q (lU x.aI):Int):=by omega
  simp[YM,fy,j,B,o,p,sG p,aA,ay]
 |some s=>
  obtain⟨k,rfl,m,h⟩:=gZ U;cases H:V (s.fn=f) with
  |true=>simp[YM,fy,j,m,p,sG p,aA,ay,SD.cells,h,H]|false=>simp[YM,fy,j,m,p,sG p,aA,ay,SD.cells,h,H]
def ZR(rs:List RD)(t:T3)(k:Int):T3:=if t.b=3/\t.d=0 then
 match jq rs t.r with
 |some r=>(match jq (vr r.cr) k with|some F=>F.t|none=>T0)
 |none=>T0 else T0
theorem Nq(W F:Nat){x:XD}(t:T3)(k:Int)(st:aO)(y:x.ok):
  (bh S).call W F 100 [fy x,.agg [.int .i64 t.b,.int .i64 t.r,.int .i64 t.d],.int .i64 k] st=Z (.agg (ZR (kZ x.aR) t k).cells,st):=by
 have h:=y.sl;have z:=y.aR;refine bu (sf:=Oo) rfl rfl (by simp[y.pure]) rfl (by simp) ?_;unfold ZR;by_cases l:t.b=3;by_cases n:t.d=0;cases D:jq (kZ x.aR) t.r with
 |none=>
  rcases jL D with B|⟨B,G⟩;simp[Oo,fy,h,l,n,B];have o:¬t.r<0:=by omega
  simp[Oo,fy,h,l,n,o,G,oH z]
 |some r=>
  obtain⟨j,m,P,v⟩:=gZ D;have o:¬t.r<0:=by omega
  have p:¬(Q (kZ x.aR):Int)<=t.r:=by omega
  have H:=Co z r (v ▸ aah P);have M:=Lj H;have U:=FY H;rw[m]at o p;simp only;cases C:jq (vr r.cr) k with
  |none=>
   rcases jL C with E|⟨E,I⟩;simp[Oo,fy,h,l,n,o,p,oH z,E,m];have w:¬k<0:=(by omega);simp[Oo,fy,h,l,n,o,p,z,oH z,P,RD.cells,w,I,U,H,AQ H,m,v]
  |some L=>
   obtain⟨q,g,T,s⟩:=gZ C;have w:¬k<0:=(by omega);have J:¬(Q (vr r.cr):Int)<=k:=(by omega);rw[g]at w J;simp[Oo,fy,h,l,n,o,p,z,oH z,P,RD.cells,w,J,U,H,AQ H,FD.cells,m,v,g,T,s]
 simp[Oo,fy,h,l,n];simp[Oo,fy,h,l]
def IS(vs:List T3)(a:Int)(t:T3):Bool:=!iV (jk vs a) ⟨0,0,0⟩&&iV (jk vs a) t
def anO(vs:List T3)(i:ID)(g:CD):Bool:=V (¬g.params<0)&&V (g.params<=Q (cx g.vars))&&V ((Q (dI i.args):Int)=g.params) &&
  ((dI i.args).zip (cx g.vars)).all (λp=>IS vs p.1 p.2)&&(V (i.a = -1)||g.bY&&IS vs i.a g.res)
def U6(C:List CD)(vs:List T3)(i:ID):Bool:=match jq C i.c with
 |none=>X|some g=>anO vs i g
theorem aeu(wl ai:Nat){x:XD}{c:CD}{i:ID}(st:aO)(hx:x.ok)(y:yJ c.vars=Y)(C:IN c.fZ=Y)(M:mX i.args=Y)(eC:cL i.args=Y)(hb:∀g∈fm x.aJ,Q (cx g.vars)<1000000000):
  (bh S).call wl ai 103 [fy x,MY c,eM i] st=Z (.bool (U6 (fm x.aJ) (cx c.vars) i),st):=by
 have G:=hx.sl;have h:=hx.aJ;have F:=lR y;have U:=kQ y;have L:=sF C;have v:=pZ C;have w:=dY M;have H:=bQ eC w;have p1:=dV F;have p2:=dV L;have hO:=λn=>PA 0 0 (c:=c) n [] y C;simp only[MY,T3.cells]at hO;refine bu (sf:=Rq) rfl rfl (by simp[hx.pure,MY,p1,p2,U4 M]) rfl (by simp) ?_;unfold U6;cases hg:jq (fm x.aJ) i.c with
 |none=>
  rcases jL hg with h0|⟨h0,h1⟩;simp[Rq,fy,MY,eM,G,F,L,w,h0];have z:¬i.c<0:=by omega
  simp[Rq,fy,MY,eM,G,F,L,w,z,h1,h,bR h]
 |some g=>
  obtain⟨k,I,D,j⟩:=gZ hg;have z:¬i.c<0:=by omega
  have J:¬(Q (fm x.aJ):Int)<=i.c:=by omega
  have Xh:g∈fm x.aJ:=j ▸ aah D;have y:=(mE h _ Xh).1;have pA:=lR y;have oJ:=kQ y;have C:=(mE h _ Xh).2;have kH:=sF C;have W:=pZ C;have Gq:=hb _ Xh;rw[I]at z J;simp only;unfold anO;by_cases P:g.params<0;simp[Rq,fy,MY,eM,G,F,L,z,J,I,D,h,bR h,CD.cells,M,oJ,kH,W,y,j,P];by_cases hq:g.params<=Q (cx g.vars);have t:¬(Q (cx g.vars):Int)<g.params:=by omega
  by_cases hp:(Q (dI i.args):Int)=g.params;simp[Rq,fy,MY,eM,G,F,L,H,z,J,I,D,h,bR h,CD.cells,M,cC M,oJ,kH,W,y,fA y,j,P,hq,t,hp];refine bM Wz.eq_1 (λq:Nat×List AV=>⟨[(4,.fp 1 0),(5,.fp 2 0),(7,.fp 3 0),(8,.val (.int .i64 q.1))],
   [[x.aR,x.ax,x.aJ,x.aI,.int .i64 x.main],
    [.int .i64 c.params,c.vars,.bool c.bY,.int .i64 c.res.b,.int .i64 c.res.r,.int .i64 c.res.d,c.fZ],
    [.int .i64 i.op,.int .i64 i.a,.int .i64 i.b,.int .i64 k,.int .i64 i.n,i.args],
    [.int .i64 g.params,g.vars,.bool g.bY,.int .i64 g.res.b,.int .i64 g.res.r,.int .i64 g.res.d,g.fZ],q.2,[]],[]⟩)
   (λq=>q.1<=Q (dI i.args)/\ZL (IS (cx c.vars)) (dI i.args) (cx g.vars) q.1) (λq=>Q (dI i.args)-q.1) (0,[]) (by simp) ⟨by simp,Nn⟩ ?_
  rintro⟨m,bb⟩ ⟨Nb,hz⟩ ih;simp only at Nb hz ih;have hlen:Q (dI i.args)<=Q (cx g.vars):=by omega
  by_cases R:m<Q (dI i.args);have N:m<Q (cx g.vars):=by omega
  have hw:=wk m (by omega);have hc:=hO (dI i.args)[m];cases E:iV (jk (cx c.vars) (dI i.args)[m]) ⟨0,0,0⟩ with
  |true=>
   have s:=ED (p:=IS (cx c.vars)) (l:=dI i.args) (m:=cx g.vars) R N (by simp[IS,E]);simp[U,v,H,R,M,cC M,bF,bP,eu.aX,fP,hc,E,s]
  |false=>
   cases B:iV (jk (cx c.vars) (dI i.args)[m]) (cx g.vars)[m] with
   |true=>
    simp[U,v,H,R,N,M,cC M,y,fA y,bF,bP,eu.aX,fP,hc,E,B,hw];exact ih (m+1,_) ⟨by simp;omega,No hz R N (by simp[IS,E,B])⟩ (by simp;omega)
   |false=>
    have s:=ED (p:=IS (cx c.vars)) (l:=dI i.args) (m:=cx g.vars) R N (by simp[IS,E,B]);simp[U,v,H,R,N,M,cC M,y,fA y,bF,bP,eu.aX,fP,hc,E,B,s]
  have D:m=Q (dI i.args):=by omega
  have s:=SG (p:=IS (cx c.vars)) (D ▸ hz);have O:=hO i.a;have T:IS (cx c.vars) i.a g.res=(!iV (jk (cx c.vars) i.a) ⟨0,0,0⟩&&iV (jk (cx c.vars) i.a) g.res):=rfl;cases e0:V (i.a = -1) with
  |true=>simp[M,cC M,R,s,of_decide_eq_true e0]|false=>
   have o:=of_decide_eq_false e0;cases E:iV (jk (cx c.vars) i.a) ⟨0,0,0⟩ with
   |true=>
    cases B:g.bY with
    |true=>simp[U,v,M,cC M,R,s,o,E,O,T]|false=>simp[U,v,M,cC M,R,s,o,E,O,T]
   |false=>
    cases B:g.bY with
    |true=>simp[U,v,M,cC M,R,s,o,E,O,T]|false=>simp[U,v,M,cC M,R,s,o,E,O,T]
  simp[Rq,fy,MY,eM,G,F,L,H,z,J,I,D,h,bR h,CD.cells,M,cC M,oJ,kH,W,y,fA y,j,P,hq,t,hp];have t:(Q (cx g.vars):Int)<g.params:=by omega
  simp[Rq,fy,MY,eM,G,F,L,z,J,I,D,h,bR h,CD.cells,M,oJ,kH,W,y,fA y,j,P,hq,t]
def eH(x:XD)(f:Int)(c:CD)(i:ID)(a b d:T3):Bool:=
 if i.op=1 then iV a ⟨1,0,0⟩||iV a ⟨2,0,0⟩&&(V (i.n=0)||decide (i.n=1)) else
 if i.op=2 then !iV a ⟨0,0,0⟩&&lS a else
 if i.op=3 then !iV a ⟨0,0,0⟩&&iV a b else
 if i.op=4 then oo i.n a b d else
 if i.op=5 then V (i.n=12)&&iV a ⟨1,0,0⟩&&iV b ⟨1,0,0⟩||decide (i.n=13)&&iV a ⟨2,0,0⟩&&iV b ⟨2,0,0⟩ else
 if i.op=6 then !iV a ⟨0,0,0⟩&&iV a (ZR (kZ x.aR) b i.c) else
 if i.op=7 then !iV b ⟨0,0,0⟩&&iV b (ZR (kZ x.aR) a i.c) else
 if i.op=8 then !iV a ⟨0,0,0⟩&&V (0<b.d)&&iV d ⟨1,0,0⟩&&iV a ⟨b.b,b.r,b.d-1⟩ else
 if i.op=9 then !iV d ⟨0,0,0⟩&&V (0<a.d)&&iV b ⟨1,0,0⟩&&iV d ⟨a.b,a.r,a.d-1⟩ else
 if i.op=10 then iV a ⟨1,0,0⟩&&V (0<b.d) else
 if i.op=11 then !iV a ⟨0,0,0⟩&&V (a.b=3)&&V (a.d=0)&&ZQ (lU x.aI) f i.n a else
 if i.op=12 then V (0<a.d)&&iV b ⟨1,0,0⟩&&ZQ (lU x.aI) f i.n a else
 if i.op=13 then U6 (fm x.aJ) (cx c.vars) i else
 if i.op=14\/i.op=15 then iV a ⟨1,0,0⟩ else
 if i.op=16 then V (0<=i.n)&&V (i.n<(Q (jo c.fZ):Int)) else
 if i.op=17 then iV a ⟨2,0,0⟩&&V (0<=i.n)&&V (i.n<(Q (jo c.fZ):Int))&&V (0<=i.c)&&V (i.c<(Q (jo c.fZ):Int)) else
 if i.op=18 then (if c.bY then !iV a ⟨0,0,0⟩&&iV a c.res else V (i.a = -1)) else
 if i.op=19\/i.op=20 then !iV a ⟨0,0,0⟩&&(match jq (cx x.ax) i.n with|some t=>iV a t|none=>X) else X
def Io(x:XD)(f:Int)(i:ID):Bool:=match jq (fm x.aJ) f with
 |none=>X|some c=>eA i&&eH x f c i (jk (cx c.vars) i.a) (jk (cx c.vars) i.b) (jk (cx c.vars) i.c)
theorem air(C:List CD)(vs:List T3)(i:ID)(p:Int):U6 C vs ⟨p,i.a,i.b,i.c,i.n,i.args⟩=U6 C vs i:=rfl
theorem aev(wl ai:Nat){x:XD}(f:Int){i:ID}(st:aO)(W:x.ok)(hi:mX i.args=Y)(eC:cL i.args=Y)(hb:∀g∈fm x.aJ,Q (cx g.vars)<1000000000):
  (bh S).call wl ai 45 [fy x,.int .i64 f,eM i] st=Z (.bool (Io x f i),st):=by
 have l:=W.sl;have H:=W.aJ;have t:=W.ax;have j:=dY hi;have q:=bQ eC j;have anP:=aes 0 0 i [] hi eC;have s:∀p n,p=i.op->n=i.n->(bh S).call 0 0 95 [.agg [.int .i64 p,.int .i64 i.a,.int .i64 i.b,.int .i64 i.c,.int .i64 n,i.args]] []=Z (.bool (eA i),[]):=by
  intro p n hp hn;subst hp;subst hn;exact anP
 simp only[eM]at anP;refine bu (sf:=qL) rfl rfl (by simp[W.pure,U4 hi]) rfl (by simp) ?_;unfold Io;cases hg:jq (fm x.aJ) f with
 |none=>
  rcases jL hg with B|⟨B,m⟩;simp[qL,fy,eM,l,j,B];have u7:¬f<0:=by omega
  simp[qL,fy,eM,l,j,u7,m,H,bR H]
 |some c=>
  obtain⟨k,hk,D,M⟩:=gZ hg;have E:=mE H c (M ▸ aah D);have P:=lR E.1;have O:=kQ E.1;have v:=E.2;have F:=sF E.2;have J:=pZ E.2;have r:=PA 0 0 (c:=c) i.a [] E.1 v;have R:=PA 0 0 (c:=c) i.b [] E.1 v;have o:=PA 0 0 (c:=c) i.c [] E.1 v;have jT:=Hl E.1 i.a;have hrb:=Hl E.1 i.b;simp only[MY,T3.cells]at r R o;have B:¬(k:Int)<0:=by omega
  have m:¬(Q (fm x.aJ):Int)<=(k:Int):=by omega
  simp only;have hCl:=λp=>aeu 0 0 (x:=x) (c:=c) (i:=⟨p,i.a,i.b,i.c,i.n,i.args⟩) [] W E.1 v hi eC hb;simp only[air,fy,MY,eM]at hCl;generalize jk (cx c.vars) i.a=a,jk (cx c.vars) i.b=b,jk (cx c.vars) i.c=d at *;have ayR:=λn=>ZP 0 0 n a b d [];have hFa:=λk=>Nq 0 0 (x:=x) a k [] W;have hFb:=λk=>Nq 0 0 (x:=x) b k [] W;have hLa:=λh:V (0<a.d)=Y=>Xq 0 0 a [] (of_decide_eq_true h) jT;have hLb:=λh:V (0<b.d)=Y=>Xq 0 0 b [] (of_decide_eq_true h) hrb;have hAl:=λf n=>aet 0 0 (x:=x) f n a [] W;simp only[fy,T3.cells]at hFa hFb hAl;cases en:eA i with
  |false=>simp[qL,fy,eM,l,j,q,B,m,hk,H,bR H,anP,en]|true=>
   rw[en]at s;simp only[hk,Bool.true_and];by_cases q1:i.op=1
   skip
   cases C:iV a ⟨1,0,0⟩ with
   |true=>
    simp[qL,fy,eM,l,j,q,B,m,D,H,bR H,CD.cells,bF,bP,eu.aX,fP,s,P,O,F,J,M,r,R,o,dX,eH,q1,C]
   |false=>
    cases c1:iV a ⟨2,0,0⟩ with
    |true=>
     cases c2:V (i.n=0) with
     |true=>
      simp[qL,fy,eM,l,j,q,B,m,D,H,bR H,CD.cells,bF,bP,eu.aX,fP,s,P,O,F,J,M,r,R,o,dX,dK,eH,q1,C,c1,c2]
     |false=>
      simp[qL,fy,eM,l,j,q,B,m,D,H,bR H,CD.cells,bF,bP,eu.aX,fP,s,P,O,F,J,M,r,R,o,dX,dK,eH,q1,C,c1,c2]
    |false=>
     simp[qL,fy,eM,l,j,q,B,m,D,H,bR H,CD.cells,bF,bP,eu.aX,fP,s,P,O,F,J,M,r,R,o,dX,dK,eH,q1,C,c1]
   skip
   by_cases q2:i.op=2
   skip
   cases w:iV a ⟨0,0,0⟩ with
   |true=>
    simp[qL,fy,eM,l,j,q,B,m,D,H,bR H,CD.cells,bF,bP,eu.aX,fP,s,P,O,F,J,M,r,R,o,eH,q2,w]
   |false=>
    simp[qL,fy,eM,l,j,q,B,m,D,H,bR H,CD.cells,bF,bP,eu.aX,fP,s,P,O,F,J,M,r,R,o,eH,AO,q2,w]
   skip
   by_cases q3:i.op=3
   skip
   cases w:iV a ⟨0,0,0⟩ with
   |true=>
    simp[qL,fy,eM,l,j,q,B,m,D,H,bR H,CD.cells,bF,bP,eu.aX,fP,s,P,O,F,J,M,r,R,o,eH,q3,w]
   |false=>
    simp[qL,fy,eM,l,j,q,B,m,D,H,bR H,CD.cells,bF,bP,eu.aX,fP,s,P,O,F,J,M,r,R,o,eH,q3,w]
   skip
   by_cases q4:i.op=4
   skip
   simp[qL,fy,eM,l,j,q,B,m,D,H,bR H,CD.cells,bF,bP,eu.aX,fP,s,P,O,F,J,M,r,R,o,eH,ayR,q4]
   skip
   by_cases q5:i.op=5
   skip
   by_cases T:i.n=12
   skip
   cases C:iV a ⟨1,0,0⟩ with
   |true=>
    cases c1:iV b ⟨1,0,0⟩ with
    |true=>
     simp[qL,fy,eM,l,j,q,B,m,D,H,bR H,CD.cells,bF,bP,eu.aX,fP,s,P,O,F,J,M,r,R,o,dX,eH,q5,T,C,c1]
    |false=>
     simp[qL,fy,eM,l,j,q,B,m,D,H,bR H,CD.cells,bF,bP,eu.aX,fP,s,P,O,F,J,M,r,R,o,dX,eH,q5,T,C,c1]
   |false=>
    simp[qL,fy,eM,l,j,q,B,m,D,H,bR H,CD.cells,bF,bP,eu.aX,fP,s,P,O,F,J,M,r,R,o,dX,eH,q5,T,C]
   skip
   by_cases m13:i.n=13
   skip
   cases C:iV a ⟨2,0,0⟩ with
   |true=>
    simp[qL,fy,eM,l,j,q,B,m,D,H,bR H,CD.cells,bF,bP,eu.aX,fP,s,P,O,F,J,M,r,R,o,dK,eH,q5,m13,C]
   |false=>
    simp[qL,fy,eM,l,j,q,B,m,D,H,bR H,CD.cells,bF,bP,eu.aX,fP,s,P,O,F,J,M,r,R,o,dK,eH,q5,m13,C]
   skip
   simp[qL,fy,eM,l,j,q,B,m,D,H,bR H,CD.cells,bF,bP,eu.aX,fP,s,P,O,F,J,M,r,R,o,eH,q5,T,m13]
   skip
   by_cases q6:i.op=6
   skip
   cases w:iV a ⟨0,0,0⟩ with
   |true=>
    simp[qL,fy,eM,l,j,q,B,m,D,H,bR H,CD.cells,bF,bP,eu.aX,fP,s,P,O,F,J,M,r,R,o,eH,q6,w]
   |false=>
    simp[qL,fy,eM,l,j,q,B,m,D,H,bR H,CD.cells,bF,bP,eu.aX,fP,s,P,O,F,J,M,r,R,o,eH,hFb,q6,w]
   skip
   by_cases q7:i.op=7
   skip
   cases w:iV b ⟨0,0,0⟩ with
   |true=>
    simp[qL,fy,eM,l,j,q,B,m,D,H,bR H,CD.cells,bF,bP,eu.aX,fP,s,P,O,F,J,M,r,R,o,eH,q7,w]
   |false=>
    simp[qL,fy,eM,l,j,q,B,m,D,H,bR H,CD.cells,bF,bP,eu.aX,fP,s,P,O,F,J,M,r,R,o,eH,hFa,q7,w]
   skip
   by_cases q8:i.op=8
   skip
   cases w:iV a ⟨0,0,0⟩ with
   |true=>
    simp[qL,fy,eM,l,j,q,B,m,D,H,bR H,CD.cells,bF,bP,eu.aX,fP,s,P,O,F,J,M,r,R,o,eH,q8,w]
   |false=>
    cases C:V (0<b.d) with
    |true=>
     replace hLb:=hLb C;cases c1:iV d ⟨1,0,0⟩ with
     |true=>
      simp[qL,fy,eM,l,j,q,B,m,D,H,bR H,CD.cells,bF,bP,eu.aX,fP,s,P,O,F,J,M,r,R,o,dX,eH,hLb,q8,w,C,c1]
     |false=>
      simp[qL,fy,eM,l,j,q,B,m,D,H,bR H,CD.cells,bF,bP,eu.aX,fP,s,P,O,F,J,M,r,R,o,dX,eH,q8,w,C,c1]
    |false=>
     simp[qL,fy,eM,l,j,q,B,m,D,H,bR H,CD.cells,bF,bP,eu.aX,fP,s,P,O,F,J,M,r,R,o,eH,q8,w,C]
   skip
   by_cases q9:i.op=9
   skip
   cases w:iV d ⟨0,0,0⟩ with
   |true=>
    simp[qL,fy,eM,l,j,q,B,m,D,H,bR H,CD.cells,bF,bP,eu.aX,fP,s,P,O,F,J,M,r,R,o,eH,q9,w]
   |false=>
    cases C:V (0<a.d) with
    |true=>
     replace hLa:=hLa C;cases c1:iV b ⟨1,0,0⟩ with
     |true=>
      simp[qL,fy,eM,l,j,q,B,m,D,H,bR H,CD.cells,bF,bP,eu.aX,fP,s,P,O,F,J,M,r,R,o,dX,eH,hLa,q9,w,C,c1]
     |false=>
      simp[qL,fy,eM,l,j,q,B,m,D,H,bR H,CD.cells,bF,bP,eu.aX,fP,s,P,O,F,J,M,r,R,o,dX,eH,q9,w,C,c1]
    |false=>
     simp[qL,fy,eM,l,j,q,B,m,D,H,bR H,CD.cells,bF,bP,eu.aX,fP,s,P,O,F,J,M,r,R,o,eH,q9,w,C]
   skip
   by_cases q10:i.op=10
   skip
   cases C:iV a ⟨1,0,0⟩ with
   |true=>
    simp[qL,fy,eM,l,j,q,B,m,D,H,bR H,CD.cells,bF,bP,eu.aX,fP,s,P,O,F,J,M,r,R,o,dX,eH,q10,C]
   |false=>
    simp[qL,fy,eM,l,j,q,B,m,D,H,bR H,CD.cells,bF,bP,eu.aX,fP,s,P,O,F,J,M,r,R,o,dX,eH,q10,C]
   skip
   by_cases ZE:i.op=11
   skip
   cases w:iV a ⟨0,0,0⟩ with
   |true=>
    simp[qL,fy,eM,l,j,q,B,m,D,H,bR H,CD.cells,bF,bP,eu.aX,fP,s,P,O,F,J,M,r,R,o,eH,ZE,w]
   |false=>
    cases C:V (a.b=3) with
    |true=>
     cases c1:V (a.d=0) with
     |true=>
      simp[qL,fy,eM,l,j,q,B,m,D,H,bR H,CD.cells,bF,bP,eu.aX,fP,s,P,O,F,J,M,r,R,o,eH,hAl,ZE,w,C,c1]
     |false=>
      simp[qL,fy,eM,l,j,q,B,m,D,H,bR H,CD.cells,bF,bP,eu.aX,fP,s,P,O,F,J,M,r,R,o,eH,ZE,w,C,c1]
    |false=>
     simp[qL,fy,eM,l,j,q,B,m,D,H,bR H,CD.cells,bF,bP,eu.aX,fP,s,P,O,F,J,M,r,R,o,eH,ZE,w,C]
   skip
   by_cases U:i.op=12
   skip
   cases C:V (0<a.d) with
   |true=>
    cases c1:iV b ⟨1,0,0⟩ with
    |true=>
     simp[qL,fy,eM,l,j,q,B,m,D,H,bR H,CD.cells,bF,bP,eu.aX,fP,s,P,O,F,J,M,r,R,o,dX,eH,hAl,U,C,c1]
    |false=>
     simp[qL,fy,eM,l,j,q,B,m,D,H,bR H,CD.cells,bF,bP,eu.aX,fP,s,P,O,F,J,M,r,R,o,dX,eH,U,C,c1]
   |false=>
    simp[qL,fy,eM,l,j,q,B,m,D,H,bR H,CD.cells,bF,bP,eu.aX,fP,s,P,O,F,J,M,r,R,o,eH,U,C]
   skip
   by_cases q13:i.op=13
   skip
   simp[qL,fy,eM,l,j,q,B,m,D,H,bR H,CD.cells,bF,bP,eu.aX,fP,s,P,O,F,J,M,r,R,o,eH,hCl,q13]
   skip
   by_cases q14:i.op=14
   skip
   simp[qL,fy,eM,l,j,q,B,m,D,H,bR H,CD.cells,bF,bP,eu.aX,fP,s,P,O,F,J,M,r,R,o,dX,eH,q14]
   skip
   by_cases q15:i.op=15
   skip
   simp[qL,fy,eM,l,j,q,B,m,D,H,bR H,CD.cells,bF,bP,eu.aX,fP,s,P,O,F,J,M,r,R,o,dX,eH,q15]
   skip
   by_cases q16:i.op=16
   skip
   cases C:V (0<=i.n) with
   |true=>
    simp[qL,fy,eM,l,j,q,B,m,D,H,bR H,CD.cells,bF,bP,eu.aX,fP,s,P,O,J,M,r,R,o,eH,v,uc v,q16,C]
   |false=>
    simp[qL,fy,eM,l,j,q,B,m,D,H,bR H,CD.cells,bF,bP,eu.aX,fP,s,P,O,J,M,r,R,o,eH,v,q16,C]
   skip
   by_cases y:i.op=17
   skip
   cases C:iV a ⟨2,0,0⟩ with
   |true=>
    cases c1:V (0<=i.n) with
    |true=>
     cases c2:V (i.n<(Q (jo c.fZ):Int)) with
     |true=>
      cases c3:V (0<=i.c) with
      |true=>
       simp[qL,fy,eM,l,j,q,B,m,D,H,bR H,CD.cells,bF,bP,eu.aX,fP,s,P,O,J,M,r,R,o,dK,eH,v,uc v,y,C,c1,c2,c3]
      |false=>
       simp[qL,fy,eM,l,j,q,B,m,D,H,bR H,CD.cells,bF,bP,eu.aX,fP,s,P,O,J,M,r,R,o,dK,eH,v,uc v,y,C,c1,c2,c3]
     |false=>
      simp[qL,fy,eM,l,j,q,B,m,D,H,bR H,CD.cells,bF,bP,eu.aX,fP,s,P,O,J,M,r,R,o,dK,eH,v,uc v,y,C,c1,c2]
    |false=>
     simp[qL,fy,eM,l,j,q,B,m,D,H,bR H,CD.cells,bF,bP,eu.aX,fP,s,P,O,J,M,r,R,o,dK,eH,v,y,C,c1]
   |false=>
    simp[qL,fy,eM,l,j,q,B,m,D,H,bR H,CD.cells,bF,bP,eu.aX,fP,s,P,O,J,M,r,R,o,dK,eH,v,y,C]
   skip
   by_cases I:i.op=18
   skip
   cases eh:c.bY with
   |true=>
    simp only[eh]at r R o;cases w:iV a ⟨0,0,0⟩ with
    |true=>
     simp[qL,fy,eM,l,j,q,B,m,D,H,bR H,CD.cells,bF,bP,eu.aX,fP,s,P,O,F,J,M,r,R,o,eH,I,eh,w]
    |false=>
     simp[qL,fy,eM,l,j,q,B,m,D,H,bR H,CD.cells,bF,bP,eu.aX,fP,s,P,O,F,J,M,r,R,o,eH,I,eh,w]
   |false=>
    simp only[eh]at r R o;cases w:iV a ⟨0,0,0⟩ with
    |true=>
     simp[qL,fy,eM,l,j,q,B,m,D,H,bR H,CD.cells,bF,bP,eu.aX,fP,s,P,O,F,J,M,r,R,o,eH,I,eh]
    |false=>
     simp[qL,fy,eM,l,j,q,B,m,D,H,bR H,CD.cells,bF,bP,eu.aX,fP,s,P,O,F,J,M,r,R,o,eH,I,eh]
   skip
   by_cases L:i.op=19
   skip
   cases w:iV a ⟨0,0,0⟩ with
   |true=>simp[qL,fy,eM,l,j,q,B,m,D,H,bR H,CD.cells,bF,bP,eu.aX,fP,s,P,O,F,J,M,r,R,o,eH,L,w]|false=>
    cases G:jq (cx x.ax) i.n with
    |none=>
     rcases jL G with g0|⟨g0,g1⟩;have g0':¬0<=i.n:=(by omega);simp[qL,fy,eM,l,j,q,B,m,D,H,bR H,CD.cells,bF,bP,eu.aX,fP,s,P,O,F,J,M,r,R,o,eH,L,w,g0',G];have g1':¬i.n<(Q (cx x.ax):Int):=(by omega);simp[qL,fy,eM,l,j,q,B,m,D,H,bR H,CD.cells,bF,bP,eu.aX,fP,s,P,O,F,J,M,r,R,o,eH,L,w,g0,g1',G,t,fA t]
    |some tt=>
     obtain⟨gk,z,gkl,gq⟩:=gZ G;have aew:jq (cx x.ax) (gk:Int)=Z tt:=z ▸ G;simp[qL,fy,eM,l,j,q,B,m,D,H,bR H,CD.cells,bF,bP,eu.aX,fP,s,P,O,F,J,M,r,R,o,eH,L,w,z,gkl,gq,aew,t,fA t]
   skip
   by_cases N:i.op=20
   skip
   cases w:iV a ⟨0,0,0⟩ with
   |true=>simp[qL,fy,eM,l,j,q,B,m,D,H,bR H,CD.cells,bF,bP,eu.aX,fP,s,P,O,F,J,M,r,R,o,eH,N,w]|false=>
    cases G:jq (cx x.ax) i.n with
    |none=>
     rcases jL G with g0|⟨g0,g1⟩;have g0':¬0<=i.n:=(by omega);simp[qL,fy,eM,l,j,q,B,m,D,H,bR H,CD.cells,bF,bP,eu.aX,fP,s,P,O,F,J,M,r,R,o,eH,N,w,g0',G];have g1':¬i.n<(Q (cx x.ax):Int):=(by omega);simp[qL,fy,eM,l,j,q,B,m,D,H,bR H,CD.cells,bF,bP,eu.aX,fP,s,P,O,F,J,M,r,R,o,eH,N,w,g0,g1',G,t,fA t]
    |some tt=>
     obtain⟨gk,z,gkl,gq⟩:=gZ G;have aew:jq (cx x.ax) (gk:Int)=Z tt:=z ▸ G;simp[qL,fy,eM,l,j,q,B,m,D,H,bR H,CD.cells,bF,bP,eu.aX,fP,s,P,O,F,J,M,r,R,o,eH,N,w,z,gkl,gq,aew,t,fA t]
   skip
   simp[qL,fy,eM,l,j,q,B,m,D,H,bR H,CD.cells,bF,bP,eu.aX,fP,s,P,O,F,J,M,r,R,o,eH,q1,q2,q3,q4,q5,q6,q7,q8,q9,q10,ZE,U,q13,q14,q15,q16,y,I,L,N]
end iA
