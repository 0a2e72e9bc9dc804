/- Part of a proof. -/
import Derived.Test.YtgblgbgjmgjfkaaGreatA6
import Derived.Test.YtgblgbgjmgjfkaaGreatCode1

open List renaming length->Q
open Option renaming some->Z,none->K
open Bool renaming true->Y,false->X
open Decidable renaming decide->V
open List renaming all_eq_true->aam,mem_map->aap,getD_eq_getElem?_getD->aay,getElem?_eq_none->afl,all_eq_false->amS,getElem_mem->aah,mem_iff_getElem->aav
open Bool renaming and_eq_true->E6
set_option maxRecDepth 100000
set_option maxHeartbeats 4000000
namespace dW
open Ax Go
def cL:AV->Bool
 |.iY _ _=>X|_=>Y
theorem bQ{v}(h:cL v=Y)(j:bn v=Y):v.aj=v:=by cases v<;>simp_all [cL,bn,AV.aj]
@[simp]theorem H9(v:AV):cL v.aj=Y:=by cases v<;>simp[cL,AV.aj]
def ij(s:Nat)(p:List AV->Bool)(v:AV):Bool:=cL v&&cU s v&&(bf v).all p
theorem ke{s p v}(h:ij s p v=Y):cU s v=Y:=by simp_all [ij,E6]
theorem mK{s p v}(h:ij s p v=Y):∀r∈bf v,p r=Y:=by simp_all [ij,E6,aam]
theorem l7{s p v}(h:ij s p v=Y):v.aj=v:=by
 have H:=lH (ke h);simp_all [ij,E6,bQ]
theorem n6{g:Type}{s p d}{e:g->List AV}{v}(h:ij s p v=Y)(B:∀r,p r=Y->r=e (d r)):bf v=((bf v).map d).map e:=by
 rw[List.map_map];conv=>lhs;rw[<-List.map_id (bf v)]
 grind [List.map_congr_left,mK]
def sQ(n:Int):Bool:=V (-9223372036854775808<=n)&&V (n<=9223372036854775807)
structure T3 where
 b:Int
 r:Int
 d:Int
 deriving DecidableEq
abbrev T0:T3:=⟨0,0,0⟩
@[simp]def T3.cells(t:T3):List AV:=[.int .i64 t.b,.int .i64 t.r,.int .i64 t.d]
def Ia(r:List AV):Bool:=match r with | [.int .i64 a,.int .i64 b,.int .i64 c]=>sQ a&&sQ b&&sQ c|_=>X
def dT(r:List AV):T3:=match r with | [.int .i64 a,.int .i64 b,.int .i64 c]=>⟨a,b,c⟩|_=>T0
theorem KH(r)(h:Ia r=Y):r=(dT r).cells:=by
 unfold Ia at h;split at h
 rfl
 cases h
def yJ(v:AV):Bool:=ij 3 Ia v
def cx(v:AV):List T3:=(bf v).map dT
theorem fA{v}(h:yJ v=Y):bf v=(cx v).map T3.cells:=n6 h KH
theorem kQ{v}(h:yJ v=Y):v.aj=v:=l7 h
@[simp]theorem ac5(v):cx v.aj=cx v:=by simp[cx]
@[simp]theorem Uu{v}(h:yJ v=Y):cU 3 v=Y:=ke h
@[simp]theorem lR{v}(h:yJ v=Y):bn v=Y:=lH (Uu h)
structure FD where
 name:List UInt8
 t:T3
def FD.cells(f:FD):List AV:=[.str f.name,.int .i64 f.t.b,.int .i64 f.t.r,.int .i64 f.t.d]
def aef(r:List AV):Bool:=match r with | [.str _,.int .i64 a,.int .i64 b,.int .i64 c]=>sQ a&&sQ b&&sQ c|_=>X
def dF(r:List AV):FD:=match r with | [.str s,.int .i64 a,.int .i64 b,.int .i64 c]=>⟨s,a,b,c⟩|_=>⟨[],T0⟩
theorem aeg(r)(h:aef r=Y):r=(dF r).cells:=by
 unfold aef at h;split at h
 rfl
 cases h
def UZ(v:AV):Bool:=ij 4 aef v
def vr(v:AV):List FD:=(bf v).map dF
theorem AQ{v}(h:UZ v=Y):bf v=(vr v).map FD.cells:=n6 h aeg
theorem FY{v}(h:UZ v=Y):v.aj=v:=l7 h
@[simp]theorem as2(v):vr v.aj=vr v:=by simp[vr]
@[simp]theorem anG{v}(h:UZ v=Y):cU 4 v=Y:=ke h
@[simp]theorem Lj{v}(h:UZ v=Y):bn v=Y:=lH (anG h)
structure RD where
 name:List UInt8
 cr:AV
def RD.cells(r:RD):List AV:=[.str r.name,r.cr]
def Xm(r:List AV):Bool:=match r with | [.str _,f]=>UZ f|_=>X
def dR(r:List AV):RD:=match r with | [.str s,f]=>⟨s,f⟩|_=>⟨[],.aF⟩
theorem aeh(r)(h:Xm r=Y):r=(dR r).cells:=by
 unfold Xm at h;split at h
 rfl
 cases h
def ZG(v:AV):Bool:=ij 2 Xm v
def kZ(v:AV):List RD:=(bf v).map dR
theorem oH{v}(h:ZG v=Y):bf v=(kZ v).map RD.cells:=n6 h aeh
theorem Co{v}(h:ZG v=Y):∀r∈kZ v,UZ r.cr=Y:=by
 intro r H;obtain⟨x,l,rfl⟩:=aap.1 H;have:=mK h x l;unfold Xm at this
 grind [dR]
theorem Pv{v}(h:ZG v=Y):v.aj=v:=l7 h
@[simp]theorem as3(v):kZ v.aj=kZ v:=by simp[kZ]
@[simp]theorem anH{v}(h:ZG v=Y):cU 2 v=Y:=ke h
@[simp]theorem Ll{v}(h:ZG v=Y):bn v=Y:=lH (anH h)
structure ID where
 op:Int
 a:Int
 b:Int
 c:Int
 n:Int
 args:AV
def ID.cells(i:ID):List AV:=[.int .i64 i.op,.int .i64 i.a,.int .i64 i.b,.int .i64 i.c,.int .i64 i.n,i.args]
def Xn(r:List AV):Bool:=match r with | [.int .i64 _,.int .i64 _,.int .i64 _,.int .i64 _,.int .i64 _,v]=>cL v&&mX v|_=>X
def dN(r:List AV):ID:=match r with | [.int .i64 a,.int .i64 b,.int .i64 c,.int .i64 d,.int .i64 e,v]=>⟨a,b,c,d,e,v⟩|_=>⟨0,0,0,0,0,.aF⟩
theorem aei(r)(h:Xn r=Y):r=(dN r).cells:=by
 unfold Xn at h;split at h
 rfl
 cases h
def IN(v:AV):Bool:=ij 6 Xn v
def jo(v:AV):List ID:=(bf v).map dN
theorem uc{v}(h:IN v=Y):bf v=(jo v).map ID.cells:=n6 h aei
theorem FZ{v}(h:IN v=Y):∀r∈jo v,cL r.args=Y/\mX r.args=Y:=by
 intro r H;obtain⟨x,l,rfl⟩:=aap.1 H;have:=mK h x l;unfold Xn at this;unfold dN
 grind
theorem pZ{v}(h:IN v=Y):v.aj=v:=l7 h
@[simp]theorem as4(v):jo v.aj=jo v:=by simp[jo]
@[simp]theorem anI{v}(h:IN v=Y):cU 6 v=Y:=ke h
@[simp]theorem sF{v}(h:IN v=Y):bn v=Y:=lH (anI h)
structure CD where
 params:Int
 vars:AV
 bY:Bool
 res:T3
 fZ:AV
def CD.cells(c:CD):List AV:=[.int .i64 c.params,c.vars,.bool c.bY,.int .i64 c.res.b,.int .i64 c.res.r,.int .i64 c.res.d,c.fZ]
def Xo(r:List AV):Bool:=match r with | [.int .i64 p,v,.bool _,.int .i64 a,.int .i64 b,.int .i64 c,i]=>sQ p&&sQ a&&sQ b&&sQ c&&yJ v&&IN i|_=>X
def dC(r:List AV):CD:=match r with | [.int .i64 p,v,.bool h,.int .i64 a,.int .i64 b,.int .i64 c,i]=>⟨p,v,h,⟨a,b,c⟩,i⟩|_=>⟨0,.aF,X,T0,.aF⟩
theorem aej(r)(h:Xo r=Y):r=(dC r).cells:=by
 unfold Xo at h;split at h
 rfl
 cases h
def ZH(v:AV):Bool:=ij 7 Xo v
def fm(v:AV):List CD:=(bf v).map dC
theorem bR{v}(h:ZH v=Y):bf v=(fm v).map CD.cells:=n6 h aej
theorem mE{v}(h:ZH v=Y):∀r∈fm v,yJ r.vars=Y/\IN r.fZ=Y:=by
 intro r H;obtain⟨x,l,rfl⟩:=aap.1 H;have:=mK h x l;unfold Xo at this;unfold dC
 grind
theorem Di{v}(h:ZH v=Y):v.aj=v:=l7 h
@[simp]theorem as5(v):fm v.aj=fm v:=by simp[fm]
@[simp]theorem anJ{v}(h:ZH v=Y):cU 7 v=Y:=ke h
@[simp]theorem Cp{v}(h:ZH v=Y):bn v=Y:=lH (anJ h)
structure SD where
 fn:Int
 t:T3
def SD.cells(s:SD):List AV:=[.int .i64 s.fn,.int .i64 s.t.b,.int .i64 s.t.r,.int .i64 s.t.d]
def Xp(r:List AV):Bool:=match r with | [.int .i64 f,.int .i64 a,.int .i64 b,.int .i64 c]=>sQ f&&sQ a&&sQ b&&sQ c|_=>X
def dS(r:List AV):SD:=match r with | [.int .i64 f,.int .i64 a,.int .i64 b,.int .i64 c]=>⟨f,a,b,c⟩|_=>⟨0,T0⟩
theorem aek(r)(h:Xp r=Y):r=(dS r).cells:=by
 unfold Xp at h;split at h
 rfl
 cases h
def ZI(v:AV):Bool:=ij 4 Xp v
def lU(v:AV):List SD:=(bf v).map dS
theorem sG{v}(h:ZI v=Y):bf v=(lU v).map SD.cells:=n6 h aek
theorem Pw{v}(h:ZI v=Y):v.aj=v:=l7 h
@[simp]theorem as6(v):lU v.aj=lU v:=by simp[lU]
@[simp]theorem anK{v}(h:ZI v=Y):cU 4 v=Y:=ke h
@[simp]theorem Lm{v}(h:ZI v=Y):bn v=Y:=lH (anK h)
structure XD where
 aR:AV
 ax:AV
 aJ:AV
 aI:AV
 main:Int
def XD.cells(x:XD):List AV:=[x.aR,x.ax,x.aJ,x.aI,.int .i64 x.main]
structure XD.ok (x:XD):Prop where
 aR:ZG x.aR=true
 ax:yJ x.ax=true
 aJ:ZH x.aJ=true
 aI:ZI x.aI=true
theorem as7{v}(h:yJ v=Y):∀t∈cx v,sQ t.b=Y/\sQ t.r=Y/\sQ t.d=Y:=by
 intro r H;obtain⟨x,l,rfl⟩:=aap.1 H;have:=mK h x l;unfold Ia at this;unfold dT
 grind
def jk(vars:List T3)(n:Int):T3:=if 0<=n then vars.getD n.toNat T0 else T0
def ko(vars:List T3)(t:T3)(l:List Int):Bool:=l.all (λn=>decide (jk vars n=t))&&V (t≠T0)
def zC:T3:=⟨1,0,0⟩
def qH:T3:=⟨2,0,0⟩
end dW
namespace iA
open Ax Go aM dW
theorem F0(C g st):(bh S).call C g 140 [] st=Z (.agg T0.cells,st):=by
 refine bu (sf:=amu) rfl rfl rfl rfl rfl ?_;simp[amu]
def vw(x:XD)(f:Int)(c:CD)(i:ID):AV:=.agg [x.aR,x.ax,x.aJ,x.aI,.int .i64 x.main,.int .i64 f,
 .int .i64 c.params,c.vars,.bool c.bY,.int .i64 c.res.b,.int .i64 c.res.r,.int .i64 c.res.d,c.fZ,
 .int .i64 i.op,.int .i64 i.a,.int .i64 i.b,.int .i64 i.c,.int .i64 i.n,i.args]
structure VW (x:XD)(c:CD)(i:ID):Prop where
 x:x.ok
 vars:yJ c.vars=true
 fZ:IN c.fZ=true
 args:mX i.args=true
 akn:cL i.args=true
theorem VW.pure{x f c i}(h:VW x c i):(vw x f c i).aH=Y:=by
 have H:=dV (Ll h.x.aR);have g:=dV (lR h.x.ax);have l:=dV (Cp h.x.aJ);have m:=dV (Lm h.x.aI);have O:=dV (lR h.vars);have C:=dV (sF h.fZ);have N:=dV (dY h.args);simp[vw, *]
theorem VW.sl{x c i}(h:VW x c i):(bn x.aR=Y/\bn x.ax=Y/\bn x.aJ=Y/\bn x.aI=Y/\bn c.vars=Y/\bn c.fZ=Y/\bn i.args=Y)/\
  x.aR.aj=x.aR/\x.ax.aj=x.ax/\x.aJ.aj=x.aJ/\x.aI.aj=x.aI/\c.vars.aj=c.vars/\c.fZ.aj=c.fZ/\i.args.aj=i.args:=
 ⟨⟨Ll h.x.aR,lR h.x.ax,Cp h.x.aJ,Lm h.x.aI,lR h.vars,sF h.fZ,dY h.args⟩,
  Pv h.x.aR,kQ h.x.ax,Di h.x.aJ,Pw h.x.aI,kQ h.vars,pZ h.fZ,bQ h.akn (dY h.args)⟩
theorem Cf(C g x f c i n st)(h:VW x c i):
  (bh S).call C g 173 [vw x f c i,.int .i64 n] st=Z (.agg (jk (cx c.vars) n).cells,st):=by
 refine bu (sf:=acU) rfl rfl (by simp[h.pure]) rfl (by simp) ?_;have j:=h.sl;have p:=h.vars;by_cases B:n<0;have e:jk (cx c.vars) n=T0:=by unfold jk;rw[ah]
 simp[acU,vw,j,B,e,F0];obtain⟨k,rfl⟩:∃k:Nat,n=k:=⟨n.toNat,by omega⟩;by_cases m:k<Q (cx c.vars);have e:jk (cx c.vars) k=(cx c.vars)[k]:=by simp[jk,aay,m]
 have U:¬(Q (cx c.vars):Int)<=(k:Int):=by omega
 simp[acU,vw,j,B,p,fA p,e,m,U];have e:jk (cx c.vars) k=T0:=by simp[jk,aay,afl (Nat.le_of_not_lt m)]
 have U:(Q (cx c.vars):Int)<=(k:Int):=by omega
 simp[acU,vw,j,B,p,fA p,e,U,F0]
theorem lE(C v x f c i t l st)(h:VW x c i)(H:mX l=Y)(q:Q (dI l)<1000000000):
  (bh S).call C v 174 [vw x f c i,.agg t.cells,l] st=Z (.bool (ko (cx c.vars) t (dI l)),st):=by
 have F:=λn=>Cf 0 0 x f c i n [] h;refine bu (sf:=amh) rfl rfl (by simp[h.pure,H]) rfl (by simp) ?_;have o:=h.sl;simp[amh,vw,o,H,cC H];simp only[vw]at F;refine bM Wv.eq_1 (λk:Nat=>⟨[(3,.fp 0 0),(4,.fp 1 0),(9,.val l),(10,.val (.int .i64 (Q (dI l)))),(11,.val (.int .i64 k))],[(vw x f c i).cells,t.cells],[]⟩) (λk=>k<=Q (dI l)/\∀j (g:j<Q (dI l)),j<k->jk (cx c.vars) (dI l)[j]=t) (λk=>Q (dI l)-k) 0 (by simp[vw]) ⟨by omega,λ_ _ h=>by omega⟩ ?_;intro k ⟨E,s⟩ I;by_cases R:k<Q (dI l);have z:=wk k (by omega);have p:=F (dI l)[k];by_cases B:jk (cx c.vars) (dI l)[k]=t;simp[vw,o,H,cC H,R,aA,ay,p,B,z];exact I (k+1) ⟨by omega,λj g T=>by
  rcases Nat.lt_or_ge j k with h|h;exact s j g h;have:j=k:=by omega
  subst this;exact B⟩ (by omega)
 have m:(V ((jk (cx c.vars) (dI l)[k]).b=t.b)&&(V ((jk (cx c.vars) (dI l)[k]).r=t.r)&&V ((jk (cx c.vars) (dI l)[k]).d=t.d)))=X:=by
  rw[Bool.eq_false_iff];intro N;simp only[E6,aC]at N;apply B;cases G:jk (cx c.vars) (dI l)[k];cases t;simp_all
 have y:ko (cx c.vars) t (dI l)=X:=by
  unfold ko;rw[Bool.and_eq_false_iff];left;rw[amS];exact⟨_,aah R,by simpa using B⟩
 simp[vw,o,H,cC H,R,aA,ay,p,m,y];have D:k=Q (dI l):=by omega
 have M:(dI l).all (λn=>decide (jk (cx c.vars) n=t))=Y:=by
  rw[aam];intro n q;obtain⟨j,g,rfl⟩:=aav.1 q;simpa using s j g (by omega)
 have w:ko (cx c.vars) t (dI l) = !(V (t.b=0)&&(V (t.r=0)&&V (t.d=0))):=by
  unfold ko;rw[M];cases t;simp
 simp[D,aA,ay,F0,w]
theorem is1(C g){x f c i}(t a st)(h:VW x c i):
  (bh S).call C g 174 [vw x f c i,.agg t.cells,.eE 1 [[.int .i64 a]]] st=Z (.bool (ko (cx c.vars) t [a]),st):=by
 have:=lE C g x f c i t (.eE 1 [[.int .i64 a]]) st h (by simp) (by simp);simp_all
theorem Dj(C j){x f c i}(l st)(h:VW x c i)(g:mX l=Y)(k:Q (dI l)<1000000000):
  (bh S).call C j 171 [vw x f c i,l] st=Z (.bool (ko (cx c.vars) zC (dI l)),st):=by
 have H:=lE 0 0 x f c i zC l [] h g k;simp only[vw,T3.cells,zC]at H;have m:=h.sl;refine bu (sf:=ame) rfl rfl (by simp[h.pure,g]) rfl (by simp) ?_;simp[ame,vw,m,H,zC]
theorem Ln(C j){x f c i}(l st)(h:VW x c i)(g:mX l=Y)(k:Q (dI l)<1000000000):
  (bh S).call C j 172 [vw x f c i,l] st=Z (.bool (ko (cx c.vars) qH (dI l)),st):=by
 have H:=lE 0 0 x f c i qH l [] h g k;simp only[vw,T3.cells,qH]at H;have m:=h.sl;refine bu (sf:=aml) rfl rfl (by simp[h.pure,g]) rfl (by simp) ?_;simp[aml,vw,m,H,qH]
def F1(vars:List T3)(a I:Int):Bool:=V (0<(jk vars a).d)&&ko vars ⟨(jk vars a).b,(jk vars a).r,(jk vars a).d-1⟩ [I]
theorem Hl{v}(h:yJ v=Y)(n):sQ (jk (cx v) n).d=Y:=by
 unfold jk;split;rw[aay];by_cases m:n.toNat<Q (cx v);rw[List.getElem?_eq_getElem m];exact(as7 h _ (aah m)).2.2;rw[afl (by omega)];rfl
 rfl
theorem Lp(C m){x f c i}(a I st)(h:VW x c i):
  (bh S).call C m 177 [vw x f c i,.int .i64 a,.int .i64 I] st=Z (.bool (F1 (cx c.vars) a I),st):=by
 have H:=λn=>Cf 0 0 x f c i n [] h;have j:=λt n=>is1 0 0 (f:=f) t n [] h;have o:=Hl h.vars a;simp only[vw,T3.cells]at H j;have k:=h.sl;refine bu (sf:=ahc) rfl rfl (by simp[h.pure]) rfl (by simp) ?_;unfold F1;generalize p:jk (cx c.vars) a=t at *;have L:=H a;rw[p]at L;by_cases g:t.d<=0;have E:¬0<t.d:=by omega
 simp[ahc,vw,k,L,g,E];have E:0<t.d:=by omega
 have q:IntKind.i64.wrap (t.d-1)=t.d-1:=by
  simp only[sQ,E6,aC]at o;rw[dg]<;>omega
 have l:=j ⟨t.b,t.r,t.d-1⟩ I;simp only at l;simp[ahc,vw,k,L,g,E,q,l]
theorem ael(C g){x f c i}(n st)(h:VW x c i):
  (bh S).call C g 184 [vw x f c i,.int .i64 n] st=Z (.bool (V (0<=n)&&V (n<Q (jo c.fZ))),st):=by
 have j:=h.sl;have H:=h.fZ;refine bu (sf:=ahl) rfl rfl (by simp[h.pure]) rfl (by simp) ?_;by_cases B:0<=n;simp[ahl,vw,j,B,uc H];simp[ahl,vw,j,B]
def jq{g:Type}(l:List g)(n:Int):Option g:=if 0<=n then l[n.toNat]? else K
theorem gZ{g l n}{y:g}(h:jq l n=Z y):∃k:Nat,n=k/\∃m,l[k]=y:=by
 grind [jq]
theorem jL{g}{l:List g}{n}(h:jq l n=K):n<0\/(0<=n/\Q l<=n):=by
 grind [jq]
def Lq(R vars:List T3)(n a:Int):Bool:=match jq R n with|some t=>ko vars t [a]|none=>X
theorem ZJ(C g){x f c i}(n a st)(h:VW x c i):
  (bh S).call C g 185 [vw x f c i,.int .i64 n,.int .i64 a] st=Z (.bool (Lq (cx x.ax) (cx c.vars) n a),st):=by
 have H:=λt n=>is1 0 0 (f:=f) t n [] h;simp only[vw,T3.cells]at H;have j:=h.sl;have p:=h.x.ax;refine bu (sf:=acy) rfl rfl (by simp[h.pure]) rfl (by simp) ?_;unfold Lq;cases U:jq (cx x.ax) n with
 |none=>
  rcases jL U with B|⟨B,q⟩;have o:¬0<=n:=by omega
  simp[acy,vw,j,o,aA,ay];have l:¬n<(Q (cx x.ax):Int):=by omega
  simp[acy,vw,j,B,l,p,fA p,aA,ay]
 |some t=>
  obtain⟨k,rfl,m,rfl⟩:=gZ U;have B:(0:Int)<=(k:Int):=by omega
  have L:=H (cx x.ax)[k] a;simp[acy,vw,j,m,p,fA p,aA,ay,L]
def F2(S:List SD)(f:Int)(vars:List T3)(n a:Int):Bool:=match jq S n with|some s=>decide (s.fn=f)&&ko vars s.t [a]|none=>X
theorem Pq(C l){x f c i}(n a st)(h:VW x c i):
  (bh S).call C l 178 [vw x f c i,.int .i64 n,.int .i64 a] st=Z (.bool (F2 (lU x.aI) f (cx c.vars) n a),st):=by
 have g:=λt n=>is1 0 0 (f:=f) t n [] h;simp only[vw,T3.cells]at g;have j:=h.sl;have p:=h.x.aI;refine bu (sf:=YK) rfl rfl (by simp[h.pure]) rfl (by simp) ?_;unfold F2;cases U:jq (lU x.aI) n with
 |none=>
  rcases jL U with B|⟨B,r⟩;have q:¬0<=n:=by omega
  simp[YK,vw,j,q,aA,ay];have o:¬n<(Q (lU x.aI):Int):=by omega
  simp[YK,vw,j,B,o,p,sG p,aA,ay]
 |some s=>
  obtain⟨k,rfl,m,rfl⟩:=gZ U;have L:=g (lU x.aI)[k].t a;by_cases H:(lU x.aI)[k].fn=f;simp[YK,vw,j,m,p,sG p,aA,ay,L,SD.cells,H];simp[YK,vw,j,m,p,sG p,aA,ay,SD.cells,H]
def IP(rs:List RD)(vars:List T3)(a k v:Int):Bool:=V ((jk vars a).b=3)&&V ((jk vars a).d=0)&&match jq rs (jk vars a).r with
 |some r=>(match jq (vr r.cr) k with|some fd=>ko vars fd.t [v]|none=>X)
 |none=>X
theorem aem(W G){x f c i}(a k v st)(h:VW x c i):
  (bh S).call W G 176 [vw x f c i,.int .i64 a,.int .i64 k,.int .i64 v] st=Z (.bool (IP (kZ x.aR) (cx c.vars) a k v),st):=by
 have y:=λn=>Cf 0 0 x f c i n [] h;have C:=λt n=>is1 0 0 (f:=f) t n [] h;simp only[vw,T3.cells]at C y;have H:=h.sl;have z:=h.x.aR;refine bu (sf:=Ow) rfl rfl (by simp[h.pure]) rfl (by simp) ?_;unfold IP;have L:=y a;generalize T:jk (cx c.vars) a=t at *;by_cases l:t.b=3;by_cases m:t.d=0;cases E:jq (kZ x.aR) t.r with
 |none=>
  rcases jL E with B|⟨B,I⟩;simp[Ow,vw,H,L,l,m,B];have o:¬t.r<0:=by omega
  simp[Ow,vw,H,L,l,m,o,I,oH z]
 |some r=>
  obtain⟨j,s,P,rfl⟩:=gZ E;have o:¬t.r<0:=by omega
  have p:¬(Q (kZ x.aR):Int)<=t.r:=by omega
  have g:=Co z _ (aah P);have M:=Lj g;have U:=FY g;simp only;cases D:jq (vr (kZ x.aR)[j].cr) k with
  |none=>
   rcases jL D with F|⟨F,k1⟩;have w:¬0<=k:=(by omega);rw[s]at L o p;simp[Ow,vw,H,L,l,m,o,p,z,oH z,P,RD.cells,aA,ay,w,U];have J:¬k<(Q (vr (kZ x.aR)[j].cr):Int):=(by omega);rw[s]at L o p;simp[Ow,vw,H,L,l,m,o,p,z,oH z,P,RD.cells,aA,ay,F,J,U,g,AQ g]
  |some R=>
   obtain⟨q,rfl,N,rfl⟩:=gZ D;have O:=C (vr (kZ x.aR)[j].cr)[q].t v;rw[s]at L o p;simp[Ow,vw,H,L,l,m,o,p,z,oH z,P,RD.cells,aA,ay,N,U,g,AQ g,FD.cells,O]
 simp[Ow,vw,H,L,l,m];simp[Ow,vw,H,L,l]
def jX(a b c n:Bool)(i:ID):Bool:=(a||decide (i.a=0))&&(b||decide (i.b=0))&&(c||decide (i.c=0))&&(n||decide (i.n=0))&&(V (i.op=13)||decide (Q (dI i.args)=0))
def eM(i:ID):AV:=.agg [.int .i64 i.op,.int .i64 i.a,.int .i64 i.b,.int .i64 i.c,.int .i64 i.n,i.args]
theorem Py(C o i a b c n st)(h:mX i.args=Y)(x:cL i.args=Y):
  (bh S).call C o 170 [eM i,.bool a,.bool b,.bool c,.bool n] st=Z (.bool (jX a b c n i),st):=by
 have j:=dY h;have p:=bQ x j;refine bu (sf:=iC) rfl rfl (by simp[eM,j]) rfl (by simp) ?_;unfold jX eM;cases a with
 |true=>
  cases b with
  |true=>
   cases c with
   |true=>
    cases n with
    |true=>
     by_cases z:i.op=13;simp[iC,j,z];by_cases m:(Q (dI i.args):Int)=0;have F:Q (dI i.args)=0:=(by omega);simp[iC,j,p,z,F,cC h];have F:¬Q (dI i.args)=0:=(by omega);simp[iC,j,p,z,F,cC h]
    |false=>
     by_cases g:i.n=0
     skip
     by_cases z:i.op=13;simp[iC,j,g,z];by_cases m:(Q (dI i.args):Int)=0;have F:Q (dI i.args)=0:=(by omega);simp[iC,j,p,g,z,F,cC h];have F:¬Q (dI i.args)=0:=(by omega);simp[iC,j,p,g,z,F,cC h];simp[iC,j,g]
   |false=>
    by_cases H:i.c=0
    skip
    cases n with
    |true=>
     by_cases z:i.op=13;simp[iC,j,H,z];by_cases m:(Q (dI i.args):Int)=0;have F:Q (dI i.args)=0:=(by omega);simp[iC,j,p,H,z,F,cC h];have F:¬Q (dI i.args)=0:=(by omega);simp[iC,j,p,H,z,F,cC h]
    |false=>
     by_cases g:i.n=0
     skip
     by_cases z:i.op=13;simp[iC,j,H,g,z];by_cases m:(Q (dI i.args):Int)=0;have F:Q (dI i.args)=0:=(by omega);simp[iC,j,p,H,g,z,F,cC h];have F:¬Q (dI i.args)=0:=(by omega);simp[iC,j,p,H,g,z,F,cC h];simp[iC,j,H,g]
    simp[iC,j,H]
  |false=>
   by_cases l:i.b=0
   skip
   cases c with
   |true=>
    cases n with
    |true=>
     by_cases z:i.op=13;simp[iC,j,l,z];by_cases m:(Q (dI i.args):Int)=0;have F:Q (dI i.args)=0:=(by omega);simp[iC,j,p,l,z,F,cC h];have F:¬Q (dI i.args)=0:=(by omega);simp[iC,j,p,l,z,F,cC h]
    |false=>
     by_cases g:i.n=0
     skip
     by_cases z:i.op=13;simp[iC,j,l,g,z];by_cases m:(Q (dI i.args):Int)=0;have F:Q (dI i.args)=0:=(by omega);simp[iC,j,p,l,g,z,F,cC h];have F:¬Q (dI i.args)=0:=(by omega);simp[iC,j,p,l,g,z,F,cC h];simp[iC,j,l,g]
   |false=>
    by_cases H:i.c=0
    skip
    cases n with
    |true=>
     by_cases z:i.op=13;simp[iC,j,l,H,z];by_cases m:(Q (dI i.args):Int)=0;have F:Q (dI i.args)=0:=(by omega);simp[iC,j,p,l,H,z,F,cC h];have F:¬Q (dI i.args)=0:=(by omega);simp[iC,j,p,l,H,z,F,cC h]
    |false=>
     by_cases g:i.n=0
     skip
     by_cases z:i.op=13;simp[iC,j,l,H,g,z];by_cases m:(Q (dI i.args):Int)=0;have F:Q (dI i.args)=0:=(by omega);simp[iC,j,p,l,H,g,z,F,cC h];have F:¬Q (dI i.args)=0:=(by omega);simp[iC,j,p,l,H,g,z,F,cC h];simp[iC,j,l,H,g]
    simp[iC,j,l,H]
   simp[iC,j,l]
 |false=>
  by_cases k:i.a=0
  skip
  cases b with
  |true=>
   cases c with
   |true=>
    cases n with
    |true=>
     by_cases z:i.op=13;simp[iC,j,k,z];by_cases m:(Q (dI i.args):Int)=0;have F:Q (dI i.args)=0:=(by omega);simp[iC,j,p,k,z,F,cC h];have F:¬Q (dI i.args)=0:=(by omega);simp[iC,j,p,k,z,F,cC h]
    |false=>
     by_cases g:i.n=0
     skip
     by_cases z:i.op=13;simp[iC,j,k,g,z];by_cases m:(Q (dI i.args):Int)=0;have F:Q (dI i.args)=0:=(by omega);simp[iC,j,p,k,g,z,F,cC h];have F:¬Q (dI i.args)=0:=(by omega);simp[iC,j,p,k,g,z,F,cC h];simp[iC,j,k,g]
   |false=>
    by_cases H:i.c=0
    skip
    cases n with
    |true=>
     by_cases z:i.op=13;simp[iC,j,k,H,z];by_cases m:(Q (dI i.args):Int)=0;have F:Q (dI i.args)=0:=(by omega);simp[iC,j,p,k,H,z,F,cC h];have F:¬Q (dI i.args)=0:=(by omega);simp[iC,j,p,k,H,z,F,cC h]
    |false=>
     by_cases g:i.n=0
     skip
     by_cases z:i.op=13;simp[iC,j,k,H,g,z];by_cases m:(Q (dI i.args):Int)=0;have F:Q (dI i.args)=0:=(by omega);simp[iC,j,p,k,H,g,z,F,cC h];have F:¬Q (dI i.args)=0:=(by omega);simp[iC,j,p,k,H,g,z,F,cC h];simp[iC,j,k,H,g]
    simp[iC,j,k,H]
  |false=>
   by_cases l:i.b=0
   skip
   cases c with
   |true=>
    cases n with
    |true=>
     by_cases z:i.op=13;simp[iC,j,k,l,z];by_cases m:(Q (dI i.args):Int)=0;have F:Q (dI i.args)=0:=(by omega);simp[iC,j,p,k,l,z,F,cC h];have F:¬Q (dI i.args)=0:=(by omega);simp[iC,j,p,k,l,z,F,cC h]
    |false=>
     by_cases g:i.n=0
     skip
     by_cases z:i.op=13;simp[iC,j,k,l,g,z];by_cases m:(Q (dI i.args):Int)=0;have F:Q (dI i.args)=0:=(by omega);simp[iC,j,p,k,l,g,z,F,cC h];have F:¬Q (dI i.args)=0:=(by omega);simp[iC,j,p,k,l,g,z,F,cC h];simp[iC,j,k,l,g]
   |false=>
    by_cases H:i.c=0
    skip
    cases n with
    |true=>
     by_cases z:i.op=13;simp[iC,j,k,l,H,z];by_cases m:(Q (dI i.args):Int)=0;have F:Q (dI i.args)=0:=(by omega);simp[iC,j,p,k,l,H,z,F,cC h];have F:¬Q (dI i.args)=0:=(by omega);simp[iC,j,p,k,l,H,z,F,cC h]
    |false=>
     by_cases g:i.n=0
     skip
     by_cases z:i.op=13;simp[iC,j,k,l,H,g,z];by_cases m:(Q (dI i.args):Int)=0;have F:Q (dI i.args)=0:=(by omega);simp[iC,j,p,k,l,H,g,z,F,cC h];have F:¬Q (dI i.args)=0:=(by omega);simp[iC,j,p,k,l,H,g,z,F,cC h];simp[iC,j,k,l,H,g]
    simp[iC,j,k,l,H]
   simp[iC,j,k,l]
  simp[iC,j,k]
def zD(i:ID):Bool:=
 if i.op=1\/i.op=11\/i.op=19\/i.op=20 then jX Y X X Y i else
 if i.op=2\/i.op=14\/i.op=15\/i.op=18 then jX Y X X X i else
 if i.op=3\/i.op=10 then jX Y Y X X i else
 if i.op=5\/i.op=12 then jX Y Y X Y i else
 if i.op=6\/i.op=7\/i.op=8\/i.op=9 then jX Y Y Y X i else
 if i.op=4 then jX Y Y Y Y i else
 if i.op=13 then jX Y X Y X i else
 if i.op=16 then jX X X X Y i else
 if i.op=17 then jX Y X Y Y i else
 X
theorem aik(W M i st)(v:mX i.args=Y)(E:cL i.args=Y):
  (bh S).call W M 162 [eM i] st=Z (.bool (zD i),st):=by
 have j:=dY v;have p:=bQ E j;have o:=λop x y z m a b c n=>Py 0 0 ⟨op,x,y,z,m,i.args⟩ a b c n [] v E;simp only[eM]at o;refine bu (sf:=wU) rfl rfl (by simp[eM,j]) rfl (by simp) ?_;unfold zD;unfold eM;by_cases H:i.op=1;simp[wU,j,p,o,jX,H];by_cases F:i.op=11;simp[wU,j,p,o,jX,F];by_cases L:i.op=19;simp[wU,j,p,o,jX,L];by_cases I:i.op=20;simp[wU,j,p,o,jX,I];by_cases k:i.op=2;simp[wU,j,p,o,jX,k];by_cases g:i.op=14;simp[wU,j,p,o,jX,g];by_cases C:i.op=15;simp[wU,j,p,o,jX,C];by_cases B:i.op=18;simp[wU,j,p,o,jX,B];by_cases l:i.op=3;simp[wU,j,p,o,jX,l];by_cases h:i.op=10;simp[wU,j,p,o,jX,h];by_cases O:i.op=5;simp[wU,j,p,o,jX,O];by_cases w:i.op=12;simp[wU,j,p,o,jX,w];by_cases r:i.op=6;simp[wU,j,p,o,jX,r];by_cases N:i.op=7;simp[wU,j,p,o,jX,N];by_cases s:i.op=8;simp[wU,j,p,o,jX,s];by_cases t:i.op=9;simp[wU,j,p,o,jX,t];by_cases q:i.op=4;simp[wU,j,p,o,jX,q];by_cases J:i.op=13;simp[wU,j,p,o,jX,J];by_cases D:i.op=16;simp[wU,j,p,o,jX,D];by_cases G:i.op=17;simp[wU,j,p,o,jX,G];simp[wU,j,H,F,L,I,k,g,C,B,l,h,O,w,r,N,s,t,q,J,D,G]
theorem VW.any{x c i}(h:VW x c i)(p q r s t):VW x c ⟨p,q,r,s,t,i.args⟩:=⟨h.x,h.vars,h.fZ,h.args,h.akn⟩
theorem akp(C g){x f c i}(a st)(h:VW x c i):
  (bh S).call C g 171 [vw x f c i,.eE 1 [[.int .i64 a]]] st=Z (.bool (ko (cx c.vars) zC [a]),st):=by
 have:=Dj C g (f:=f) (.eE 1 [[.int .i64 a]]) st h (by simp) (by simp);simp_all
theorem akq(C g){x f c i}(a b st)(h:VW x c i):
  (bh S).call C g 171 [vw x f c i,.eE 1 [[.int .i64 a],[.int .i64 b]]] st=Z (.bool (ko (cx c.vars) zC [a,b]),st):=by
 have:=Dj C g (f:=f) (.eE 1 [[.int .i64 a],[.int .i64 b]]) st h (by simp) (by simp);simp_all
theorem as8(C g){x f c i}(a b d st)(h:VW x c i):
  (bh S).call C g 171 [vw x f c i,.eE 1 [[.int .i64 a],[.int .i64 b],[.int .i64 d]]] st=Z (.bool (ko (cx c.vars) zC [a,b,d]),st):=by
 have:=Dj C g (f:=f) (.eE 1 [[.int .i64 a],[.int .i64 b],[.int .i64 d]]) st h (by simp) (by simp);simp_all
theorem U0(C g){x f c i}(a st)(h:VW x c i):
  (bh S).call C g 172 [vw x f c i,.eE 1 [[.int .i64 a]]] st=Z (.bool (ko (cx c.vars) qH [a]),st):=by
 have:=Ln C g (f:=f) (.eE 1 [[.int .i64 a]]) st h (by simp) (by simp);simp_all
theorem anL(C g){x f c i}(a b st)(h:VW x c i):
  (bh S).call C g 172 [vw x f c i,.eE 1 [[.int .i64 a],[.int .i64 b]]] st=Z (.bool (ko (cx c.vars) qH [a,b]),st):=by
 have:=Ln C g (f:=f) (.eE 1 [[.int .i64 a],[.int .i64 b]]) st h (by simp) (by simp);simp_all
theorem anM(C g){x f c i}(a b d st)(h:VW x c i):
  (bh S).call C g 172 [vw x f c i,.eE 1 [[.int .i64 a],[.int .i64 b],[.int .i64 d]]] st=Z (.bool (ko (cx c.vars) qH [a,b,d]),st):=by
 have:=Ln C g (f:=f) (.eE 1 [[.int .i64 a],[.int .i64 b],[.int .i64 d]]) st h (by simp) (by simp);simp_all
theorem as9(C g){x f c i}(n a st)(h:VW x c i):
  (bh S).call C g 174 [vw x f c i,.agg (jk (cx c.vars) n).cells,.eE 1 [[.int .i64 a]]] st=Z (.bool (ko (cx c.vars) (jk (cx c.vars) n) [a]),st):=is1 C g _ a st h
def pV(vs:List T3)(i:ID):Bool:=
 if i.n=14\/i.n=15\/i.n=16\/i.n=17\/i.n=18 then ko vs zC [i.a,i.b,i.c] else
 if i.n=19\/i.n=20 then ko vs qH [i.a]&&ko vs zC [i.b,i.c] else
 if i.n=21\/i.n=22 then ko vs qH [i.a]&&ko vs (jk vs i.b) [i.c] else
 if i.n=23\/i.n=24 then ko vs qH [i.a,i.b,i.c] else X
theorem U1(W G){x f c i}(st)(h:VW x c i):
  (bh S).call W G 175 [vw x f c i] st=Z (.bool (pV (cx c.vars) i),st):=by
 have j:=h.sl;have k:=λp q r s t a b=>akq 0 0 (f:=f) (i:=⟨p,q,r,s,t,i.args⟩) a b [] (h.any p q r s t);have H:=λp q r s t a b d=>as8 0 0 (f:=f) (i:=⟨p,q,r,s,t,i.args⟩) a b d [] (h.any p q r s t);have m:=λp q r s t a=>U0 0 0 (f:=f) (i:=⟨p,q,r,s,t,i.args⟩) a [] (h.any p q r s t);have g:=λp q r s t a b d=>anM 0 0 (f:=f) (i:=⟨p,q,r,s,t,i.args⟩) a b d [] (h.any p q r s t);have o:=λp q r s t n a=>as9 0 0 (f:=f) (i:=⟨p,q,r,s,t,i.args⟩) n a [] (h.any p q r s t);have v:=λp q r s t n=>Cf 0 0 x f c ⟨p,q,r,s,t,i.args⟩ n [] (h.any p q r s t);simp only[vw,T3.cells]at H k g m o v;refine bu (sf:=Bo) rfl rfl (by simp[h.pure]) rfl (by simp) ?_;by_cases y:i.n=14
 skip
 simp[Bo,vw,j,H,pV,y]
 skip
 by_cases C:i.n=15
 skip
 simp[Bo,vw,j,H,pV,C]
 skip
 by_cases D:i.n=16
 skip
 simp[Bo,vw,j,H,pV,D]
 skip
 by_cases F:i.n=17
 skip
 simp[Bo,vw,j,H,pV,F]
 skip
 by_cases B:i.n=18
 skip
 simp[Bo,vw,j,H,pV,B]
 skip
 by_cases w:i.n=19
 skip
 cases E:ko (cx c.vars) qH [i.a] with
 |true=>
  simp[Bo,vw,j,k,m,pV,w,E]
 |false=>
  simp[Bo,vw,j,m,pV,w,E]
 skip
 by_cases z:i.n=20
 skip
 cases E:ko (cx c.vars) qH [i.a] with
 |true=>
  simp[Bo,vw,j,k,m,pV,z,E]
 |false=>
  simp[Bo,vw,j,m,pV,z,E]
 skip
 by_cases N:i.n=21
 skip
 cases E:ko (cx c.vars) qH [i.a] with
 |true=>
  simp[Bo,aA,ay,vw,j,m,o,v,pV,N,E]
 |false=>
  simp[Bo,aA,ay,vw,j,m,pV,N,E]
 skip
 by_cases l:i.n=22
 skip
 cases E:ko (cx c.vars) qH [i.a] with
 |true=>
  simp[Bo,aA,ay,vw,j,m,o,v,pV,l,E]
 |false=>
  simp[Bo,aA,ay,vw,j,m,pV,l,E]
 skip
 by_cases M:i.n=23
 skip
 simp[Bo,vw,j,g,pV,M]
 skip
 by_cases U:i.n=24
 skip
 simp[Bo,vw,j,g,pV,U]
 skip
 simp[Bo,vw,j,pV,y,C,D,F,B,w,z,N,l,M,U]
def ZK(vs:List T3)(i:ID)(g:CD):Bool:=V ((Q (dI i.args):Int)=g.params)&&V (g.params<=Q (cx g.vars)) &&
  ((dI i.args).zip (cx g.vars)).all (λp=>ko vs p.2 [p.1])&&(V (i.a = -1)||g.bY&&ko vs g.res [i.a])
def IQ(C:List CD)(vs:List T3)(i:ID):Bool:=match jq C i.c with
 |none=>X|some g=>ZK vs i g
def ZL{g h:Type}(p:g->h->Bool)(l:List g)(m:List h)(k:Nat):Prop:=∀j (H:j<Q l)(n:j<Q m),j<k->p l[j] m[j]=Y
theorem Nn{g j p}{l:List g}{m:List j}:ZL p l m 0:=λ_ _ _ h=>au h
theorem No{n o p}{l:List n}{m:List o}{k}(h:ZL p l m k)(H)(q:k<Q m)(s:p l[k] m[k]=Y):ZL p l m (k+1):=by
 intro j J g r;rcases Nat.lt_or_ge j k with I|I;exact h j J g I
 grind
theorem SG{n o p}{l:List n}{m:List o}(h:ZL p l m (Q l)):(l.zip m).all (λq=>p q.1 q.2)=Y:=by
 rw[aam];intro q k;obtain⟨j,r,rfl⟩:=aav.1 k;have H:j<Q l:=by grind
 have g:j<Q m:=by grind
 simpa using h j H g H
theorem ED{g h:Type}{p:g->h->Bool}{l:List g}{m k}(H)(n:k<Q m)(j:p l[k] m[k]=X):(l.zip m).all (λq=>p q.1 q.2)=X:=by
 rw[amS];refine⟨(l[k],m[k]),?_,by simp[j]⟩;rw[aav];exact⟨k,by simp;omega,by simp⟩
theorem xW(wl ai){x f c i}(st)(h:VW x c i)(hb:∀g∈fm x.aJ,Q (cx g.vars)<1000000000):
  (bh S).call wl ai 183 [vw x f c i] st=Z (.bool (IQ (fm x.aJ) (cx c.vars) i),st):=by
 have j:=h.sl;have H:=h.x.aJ;have M:=h.args;have L:=λt a=>is1 0 0 (f:=f) t a [] h;have lG:=λ(g:CD) a=>is1 0 0 (f:=f) g.res a [] h;simp only[vw,T3.cells]at L lG;refine bu (sf:=Uh) rfl rfl (by simp[h.pure]) rfl (by simp) ?_;unfold IQ;cases T:jq (fm x.aJ) i.c with
 |none=>
  rcases jL T with I|⟨I,h1⟩;simp[Uh,vw,j,I];have o:¬i.c<0:=by omega
  simp[Uh,vw,j,o,h1,H,bR H]
 |some g=>
  obtain⟨k,s,D,rfl⟩:=gZ T;have o:¬i.c<0:=by omega
  have v:¬(Q (fm x.aJ):Int)<=i.c:=by omega
  have C:=aah D;have y:=(mE H _ C).1;have pA:=lR y;have O:=kQ y;have N:=(mE H _ C).2;have F:=sF N;have J:=pZ N;have Gq:=hb _ C;generalize l:(fm x.aJ)[k]=g at *;rw[s]at o v;unfold ZK;by_cases E:(Q (dI i.args):Int)=g.params;by_cases hq:g.params<=Q (cx g.vars);have m:¬(Q (cx g.vars):Int)<g.params:=by omega
  simp[Uh,vw,j,o,v,s,D,H,bR H,CD.cells,M,cC M,E,O,F,J,y,fA y,hq,m,l]
  skip
  refine bM Wm.eq_1 (λk:Nat=>⟨[(1,.fp 0 0),(3,.fp 1 0),(4,.fp 2 0),(43,.val i.args),(44,.val (.int .i64 g.params)),(45,.val (.int .i64 k))],
   [[x.aR,x.ax,x.aJ,x.aI,.int .i64 x.main,.int .i64 f,.int .i64 c.params,c.vars,.bool c.bY,.int .i64 c.res.b,.int .i64 c.res.r,.int .i64 c.res.d,c.fZ,
    .int .i64 i.op,.int .i64 i.a,.int .i64 i.b,.int .i64 i.c,.int .i64 i.n,i.args],
    [.int .i64 i.op,.int .i64 i.a,.int .i64 i.b,.int .i64 i.c,.int .i64 i.n,i.args],
    [.int .i64 g.params,g.vars,.bool g.bY,.int .i64 g.res.b,.int .i64 g.res.r,.int .i64 g.res.d,g.fZ]],[]⟩)
   (λk=>k<=Q (dI i.args)/\ZL (λa b=>ko (cx c.vars) b [a]) (dI i.args) (cx g.vars) k) (λk=>Q (dI i.args)-k) 0 (by simp[s]) ⟨by omega,Nn⟩ ?_
  intro k ⟨Nb,hz⟩ ih;have W:Q (dI i.args)<=Q (cx g.vars):=by omega
  by_cases R:k<Q (dI i.args);have z:(k:Int)<g.params:=by omega
  have w:k<Q (cx g.vars):=by omega
  have hw:=wk k (by omega);have P:=L (cx g.vars)[k] (dI i.args)[k];cases B:ko (cx c.vars) (cx g.vars)[k] [(dI i.args)[k]] with
  |true=>
   simp[j,z,R,w,M,cC M,y,fA y,aA,ay,P,B,hw];exact ih (k+1) ⟨by omega,No hz R w B⟩ (by omega)
  |false=>
   have q:=ED (p:=λa b=>ko (cx c.vars) b [a]) R w B;simp[j,z,R,w,M,cC M,y,fA y,aA,ay,P,B,q]
  have z:¬(k:Int)<g.params:=by omega
  have D:k=Q (dI i.args):=by omega
  have q:=SG (p:=λa b=>ko (cx c.vars) b [a]) (D ▸ hz);have JF:=lG g i.a;cases G:V (i.a = -1) with
  |true=>simp[z,q,of_decide_eq_true G]|false=>
   have U:=of_decide_eq_false G;cases e2:g.bY with
   |true=>simp[j,z,q,U,JF]|false=>simp[z,q,U]
  have m:(Q (cx g.vars):Int)<g.params:=by omega
  simp[Uh,vw,j,o,v,s,D,H,bR H,CD.cells,M,cC M,E,O,F,J,y,fA y,hq,m,l];simp[Uh,vw,j,o,v,s,D,H,bR H,CD.cells,M,cC M,E,pA,O,F,J,l]
def F3(c:CD)(n:Int):Bool:=V (0<=n)&&V (n<Q (jo c.fZ))
def sU(x:XD)(c:CD)(i:ID):Bool:=
 if i.op=13 then IQ (fm x.aJ) (cx c.vars) i else
 if i.op=14\/i.op=15 then ko (cx c.vars) zC [i.a] else
 if i.op=16 then F3 c i.n else
 if i.op=17 then ko (cx c.vars) qH [i.a]&&F3 c i.n&&F3 c i.c else
 if i.op=18 then (if c.bY then ko (cx c.vars) c.res [i.a] else V (i.a = -1)) else
 Lq (cx x.ax) (cx c.vars) i.n i.a
theorem aim(C vs i p r t):IQ C vs ⟨p,i.a,r,i.c,t,i.args⟩=IQ C vs i:=rfl
theorem ayP(C g){x f c i}(a st)(h:VW x c i):
  (bh S).call C g 174 [vw x f c i,.agg c.res.cells,.eE 1 [[.int .i64 a]]] st=Z (.bool (ko (cx c.vars) c.res [a]),st):=is1 C g _ a st h
theorem ain(L I){x f c i}(st)(h:VW x c i)(J:∀g∈fm x.aJ,Q (cx g.vars)<1000000000):
  (bh S).call L I 179 [vw x f c i] st=Z (.bool (sU x c i),st):=by
 have j:=h.sl;have l:=λp q r s t a=>akp 0 0 (f:=f) (i:=⟨p,q,r,s,t,i.args⟩) a [] (h.any p q r s t);have m:=λp q r s t a=>U0 0 0 (f:=f) (i:=⟨p,q,r,s,t,i.args⟩) a [] (h.any p q r s t);have z:=λp q r s t a=>ayP 0 0 (f:=f) (i:=⟨p,q,r,s,t,i.args⟩) a [] (h.any p q r s t);have F:=λp q r s t n=>ael 0 0 (f:=f) (i:=⟨p,q,r,s,t,i.args⟩) n [] (h.any p q r s t);have H:=λp q r s t n a=>ZJ 0 0 (f:=f) (i:=⟨p,q,r,s,t,i.args⟩) n a [] (h.any p q r s t);have W:=λp r t=>xW 0 0 (x:=x) (f:=f) (c:=c) (i:=⟨p,i.a,r,i.c,t,i.args⟩) [] (h.any p _ r _ t) J;have F:∀p q r s t n,(bh S).call 0 0 184 [vw x f c ⟨p,q,r,s,t,i.args⟩,.int .i64 n] []=Z (.bool (F3 c n),[]):=λp q r s t n=>F p q r s t n;simp only[aim]at W;simp only[vw,T3.cells]at l m z F H W;refine bu (sf:=Et) rfl rfl (by simp[h.pure]) rfl (by simp) ?_;by_cases G:i.op=13
 skip
 simp[Et,vw,j,W,sU,G]
 skip
 by_cases w:i.op=14
 skip
 simp[Et,vw,j,l,sU,w]
 skip
 by_cases C:i.op=15
 skip
 simp[Et,vw,j,l,sU,C]
 skip
 by_cases D:i.op=16
 skip
 simp[Et,vw,j,F,sU,D]
 skip
 by_cases y:i.op=17
 skip
 cases k:ko (cx c.vars) qH [i.a] with
 |true=>
  cases v:F3 c i.n with
  |true=>
   simp[Et,vw,j,m,F,sU,y,k,v]
  |false=>
   simp[Et,vw,j,m,F,sU,y,k,v]
 |false=>
  cases v:F3 c i.n with
  |true=>
   simp[Et,vw,j,m,sU,y,k,v]
  |false=>
   simp[Et,vw,j,m,sU,y,k,v]
 skip
 by_cases B:i.op=18
 skip
 cases E:c.bY with
 |true=>
  simp only[E]at z;cases o:ko (cx c.vars) c.res [i.a] with
  |true=>
   simp[Et,vw,j,z,sU,B,E,o]
  |false=>
   simp[Et,vw,j,z,sU,B,E,o]
 |false=>
  simp only[E]at z;cases o:ko (cx c.vars) c.res [i.a] with
  |true=>
   simp[Et,vw,j,sU,B,E]
  |false=>
   simp[Et,vw,j,sU,B,E]
 skip
 simp[Et,vw,j,H,sU,G,w,C,D,y,B]
def lS(t:T3):Bool:=V (t.b=3)||decide (0<t.d)
theorem aen(C g a b c st):
  (bh S).call C g 105 [.agg [.int .i64 a,.int .i64 b,.int .i64 c]] st=Z (.bool (lS ⟨a,b,c⟩),st):=by
 refine bu (sf:=amj) rfl rfl (by simp) rfl (by simp) ?_;unfold lS;by_cases h:a=3;all_goals simp_all [amj]
def iZ(x:XD)(f:Int)(c:CD)(i:ID):Bool:=
 if i.op=1 then ko (cx c.vars) zC [i.a]||ko (cx c.vars) qH [i.a]&&(V (i.n=0)||decide (i.n=1)) else
 if i.op=2 then lS (jk (cx c.vars) i.a) else
 if i.op=3 then ko (cx c.vars) (jk (cx c.vars) i.a) [i.b] else
 if i.op=4 then pV (cx c.vars) i else
 if i.op=5 then V (i.n=12)&&ko (cx c.vars) zC [i.a,i.b]||decide (i.n=13)&&ko (cx c.vars) qH [i.a,i.b] else
 if i.op=6 then IP (kZ x.aR) (cx c.vars) i.b i.c i.a else
 if i.op=7 then IP (kZ x.aR) (cx c.vars) i.a i.c i.b else
 if i.op=8 then F1 (cx c.vars) i.b i.a&&ko (cx c.vars) zC [i.c] else
 if i.op=9 then F1 (cx c.vars) i.a i.c&&ko (cx c.vars) zC [i.b] else
 if i.op=10 then ko (cx c.vars) zC [i.a]&&V (0<(jk (cx c.vars) i.b).d) else
 if i.op=11 then V ((jk (cx c.vars) i.a).b=3)&&V ((jk (cx c.vars) i.a).d=0)&&F2 (lU x.aI) f (cx c.vars) i.n i.a else
 if i.op=12 then V (0<(jk (cx c.vars) i.a).d)&&F2 (lU x.aI) f (cx c.vars) i.n i.a&&ko (cx c.vars) zC [i.b] else
 sU x c i
theorem aio(vs i p):pV vs ⟨p,i.a,i.b,i.c,i.n,i.args⟩=pV vs i:=rfl
theorem aip(wl ai){x f c i}(st)(h:VW x c i)(hb:∀g∈fm x.aJ,Q (cx g.vars)<1000000000):
  (bh S).call wl ai 163 [vw x f c i] st=Z (.bool (iZ x f c i),st):=by
 have j:=h.sl;have l:=λp q r s t a=>akp 0 0 (f:=f) (i:=⟨p,q,r,s,t,i.args⟩) a [] (h.any p q r s t);have w:=λp q r s t a b=>akq 0 0 (f:=f) (i:=⟨p,q,r,s,t,i.args⟩) a b [] (h.any p q r s t);have z:=λp q r s t a=>U0 0 0 (f:=f) (i:=⟨p,q,r,s,t,i.args⟩) a [] (h.any p q r s t);have F:=λp q r s t a b=>anL 0 0 (f:=f) (i:=⟨p,q,r,s,t,i.args⟩) a b [] (h.any p q r s t);have hC:=λp q r s t n a=>as9 0 0 (f:=f) (i:=⟨p,q,r,s,t,i.args⟩) n a [] (h.any p q r s t);have U:=λp q r s t n a=>Pq 0 0 (f:=f) (i:=⟨p,q,r,s,t,i.args⟩) n a [] (h.any p q r s t);have hF:=λp q r s t a k v=>aem 0 0 (f:=f) (i:=⟨p,q,r,s,t,i.args⟩) a k v [] (h.any p q r s t);have I:=λp q r s t a b=>Lp 0 0 (f:=f) (i:=⟨p,q,r,s,t,i.args⟩) a b [] (h.any p q r s t);have H:=λp q r s t n=>Cf 0 0 x f c ⟨p,q,r,s,t,i.args⟩ n [] (h.any p q r s t);have y:=λp=>U1 0 0 (x:=x) (f:=f) (c:=c) (i:=⟨p,i.a,i.b,i.c,i.n,i.args⟩) [] (h.any p _ _ _ _);have G:=ain 0 0 (f:=f) [] h hb;simp only[aio]at y;simp only[vw,T3.cells]at l w z F hC U hF I H y G;refine bu (sf:=pS) rfl rfl (by simp[h.pure]) rfl (by simp) ?_;by_cases o:i.op=1
 skip
 cases E:ko (cx c.vars) zC [i.a] with
 |true=>
  cases m:ko (cx c.vars) qH [i.a] with
  |true=>
   cases N:V (i.n=0) with
   |true=>
    simp[pS,vw,j,l,iZ,o,E,m,N]
   |false=>
    simp[pS,vw,j,l,iZ,o,E,m,N]
  |false=>
   cases N:V (i.n=0) with
   |true=>
    simp[pS,vw,j,l,iZ,o,E,m,N]
   |false=>
    simp[pS,vw,j,l,iZ,o,E,m,N]
 |false=>
  cases m:ko (cx c.vars) qH [i.a] with
  |true=>
   cases N:V (i.n=0) with
   |true=>
    simp[pS,vw,j,l,z,iZ,o,E,m,N]
   |false=>
    simp[pS,vw,j,l,z,iZ,o,E,m,N]
  |false=>
   cases N:V (i.n=0) with
   |true=>
    simp[pS,vw,j,l,z,iZ,o,E,m,N]
   |false=>
    simp[pS,vw,j,l,z,iZ,o,E,m,N]
 skip
 by_cases h2:i.op=2
 skip
 simp[pS,vw,j,H,aen,iZ,h2]
 skip
 by_cases h3:i.op=3
 skip
 simp[pS,vw,j,aA,ay,hC,H,iZ,h3]
 skip
 by_cases h4:i.op=4
 skip
 simp[pS,vw,j,y,iZ,h4]
 skip
 by_cases O:i.op=5
 skip
 by_cases M:i.n=12
 skip
 cases e2:ko (cx c.vars) zC [i.a,i.b] with
 |true=>
  simp[pS,vw,j,w,iZ,O,M,e2]
 |false=>
  simp[pS,vw,j,w,iZ,O,M,e2]
 skip
 by_cases J:i.n=13
 skip
 simp[pS,vw,j,F,iZ,O,J]
 skip
 simp[pS,vw,j,iZ,O,M,J]
 skip
 by_cases h6:i.op=6
 skip
 simp[pS,vw,j,hF,iZ,h6]
 skip
 by_cases h7:i.op=7
 skip
 simp[pS,vw,j,hF,iZ,h7]
 skip
 by_cases h8:i.op=8
 skip
 cases D:F1 (cx c.vars) i.b i.a with
 |true=>
  simp[pS,vw,j,l,I,iZ,h8,D]
 |false=>
  simp[pS,vw,j,I,iZ,h8,D]
 skip
 by_cases h9:i.op=9
 skip
 cases D:F1 (cx c.vars) i.a i.c with
 |true=>
  simp[pS,vw,j,l,I,iZ,h9,D]
 |false=>
  simp[pS,vw,j,I,iZ,h9,D]
 skip
 by_cases W:i.op=10
 skip
 cases E:ko (cx c.vars) zC [i.a] with
 |true=>
  simp[pS,vw,j,l,H,iZ,W,E]
 |false=>
  simp[pS,vw,j,l,iZ,W,E]
 skip
 by_cases P:i.op=11
 skip
 cases R:V ((jk (cx c.vars) i.a).b=3) with
 |true=>
  cases B:V ((jk (cx c.vars) i.a).d=0) with
  |true=>
   simp[pS,vw,j,U,H,iZ,P,R,B]
  |false=>
   simp[pS,vw,j,H,iZ,P,R,B]
 |false=>
  cases B:V ((jk (cx c.vars) i.a).d=0) with
  |true=>
   simp[pS,vw,j,H,iZ,P,R,B]
  |false=>
   simp[pS,vw,j,H,iZ,P,R,B]
 skip
 by_cases L:i.op=12
 skip
 cases T:V (0<(jk (cx c.vars) i.a).d) with
 |true=>
  cases C:F2 (lU x.aI) f (cx c.vars) i.n i.a with
  |true=>
   simp[pS,vw,j,l,U,H,iZ,L,T,C]
  |false=>
   simp[pS,vw,j,U,H,iZ,L,T,C]
 |false=>
  cases C:F2 (lU x.aI) f (cx c.vars) i.n i.a with
  |true=>
   simp[pS,vw,j,H,iZ,L,T,C]
  |false=>
   simp[pS,vw,j,H,iZ,L,T,C]
 skip
 simp[pS,vw,j,G,iZ,o,h2,h3,h4,O,h6,h7,h8,h9,W,P,L]
def fy(x:XD):AV:=.agg [x.aR,x.ax,x.aJ,x.aI,.int .i64 x.main]
theorem _root_.dW.XD.ok.sl{x:XD}(h:x.ok):(bn x.aR=Y/\bn x.ax=Y/\bn x.aJ=Y/\bn x.aI=Y)/\
  x.aR.aj=x.aR/\x.ax.aj=x.ax/\x.aJ.aj=x.aJ/\x.aI.aj=x.aI:=
 ⟨⟨Ll h.aR,lR h.ax,Cp h.aJ,Lm h.aI⟩,Pv h.aR,kQ h.ax,Di h.aJ,Pw h.aI⟩
theorem _root_.dW.XD.ok.pure{x:XD}(h:x.ok):(fy x).aH=Y:=by
 have H:=dV (Ll h.aR);have g:=dV (lR h.ax);have l:=dV (Cp h.aJ);have m:=dV (Lm h.aI);simp[fy, *]
theorem U4{i}(h:mX i.args=Y):(eM i).aH=Y:=by
 have H:=dV (dY h);simp[eM, *]
def yw(x:XD)(f:Int)(i:ID):Bool:=match jq (fm x.aJ) f with
 |none=>X|some c=>zD i&&iZ x f c i
theorem oC(wl ai){x}(f){i}(st)(l:x.ok)(H:mX i.args=Y)(E:cL i.args=Y)(v:∀g∈fm x.aJ,Q (cx g.vars)<1000000000):
  (bh S).call wl ai 141 [fy x,.int .i64 f,eM i] st=Z (.bool (yw x f i),st):=by
 have j:=l.sl;have p:=l.aJ;have h:=dY H;have r:=bQ E h;have n:=aik 0 0 i [] H E;simp only[eM]at n;refine bu (sf:=YJ) rfl rfl (by simp[l.pure,U4 H]) rfl (by simp) ?_;unfold yw;cases U:jq (fm x.aJ) f with
 |none=>
  rcases jL U with B|⟨B,w⟩;have y:¬0<=f:=by omega
  simp[YJ,fy,eM,j,h,y,aA,ay];have m:¬f<(Q (fm x.aJ):Int):=by omega
  simp[YJ,fy,eM,j,h,B,m,p,bR p,aA,ay]
 |some c=>
  obtain⟨k,rfl,q,t⟩:=gZ U;have o:=mE p c (t ▸ aah q);have s:=aip 0 0 (x:=x) (f:=(k:Int)) (c:=c) (i:=i) [] ⟨l,o.1,o.2,H,E⟩ v;have P:=lR o.1;have O:=kQ o.1;have F:=sF o.2;have J:=pZ o.2;simp only[vw]at s;have B:(0:Int)<=(k:Int):=by omega
  have w:(k:Int)<(Q (fm x.aJ):Int):=by omega
  cases e:zD i with
  |true=>simp[YJ,fy,eM,j,h,r,B,q,p,bR p,CD.cells,aA,ay,n,s,t,e,O,J]|false=>simp[YJ,fy,eM,j,h,r,B,q,p,bR p,aA,ay,n,e]
end iA
