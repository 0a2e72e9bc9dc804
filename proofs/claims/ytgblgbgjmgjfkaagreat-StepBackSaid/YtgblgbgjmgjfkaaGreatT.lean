/- Part of a proof. -/
import Derived.Test.YtgblgbgjmgjfkaaGreatD
import Derived.Test.YtgblgbgjmgjfkaaGreatO

open List renaming length->Q
open Option renaming some->Z,none->K
open Bool renaming true->Y
open Decidable renaming decide->V
open List renaming drop_length->aaF,getElem_mem->aah,getElem?_eq_getElem->aae,length_cons->aaK,isEmpty_cons->akA
open Bool renaming false_eq_true->aai
set_option maxRecDepth 100000
set_option maxHeartbeats 8000000
namespace R9
open Ax Go aM V7 jb jn K9
variable {pre:aO}
variable{g:Type}{c:CK}{r:aO}
theorem ax3{l:List g}(p i):(p++l)[Q p+i]?=l[i]?:=by
 rw[List.getElem?_append_right (by omega)];simp
theorem asB{l:List g}(p i):(p++l).take (Q p+i)=p++l.take i:=by
 rw[List.take_append,List.take_of_length_le (by omega),Nat.add_sub_cancel_left]
attribute [simp] ax3 asB
theorem ax4{C g B}:bD C g (.load false 1 false) [.val (.ptr (Q pre) 0 0 12)] (pre++c.bX::r) B=Z (.val (.int .i64 c.fe),pre++c.bX::r,B):=by
 simp[CK.bX,cut,AV.aj]
theorem anb{wl ai bx}:bD wl ai (.load false 1 false) [.val (.ptr (Q pre) 0 0 4)] (pre++c.bX::r) bx=Z (.val (aN 1 (mQ c.H.rs)),pre++c.bX::r,bx):=by
 simp[CK.bX,cut,aN]
theorem ax5{wl ai bx}:bD wl ai (.load false 1 false) [.val (.ptr (Q pre) 0 0 0)] (pre++c.bX::r) bx=Z (.val (aN 2 (c.H.bN.map gh)),pre++c.bX::r,bx):=by
 simp[CK.bX,cut]
theorem ax6{wl ai bx}:bD wl ai (.load false 1 false) [.val (.ptr (Q pre) 0 0 1)] (pre++c.bX::r) bx=Z (.val (cM c.H.ax),pre++c.bX::r,bx):=by
 simp[CK.bX,cut]
theorem asC{wl ai bx}:bD wl ai (.load false 1 false) [.val (.ptr (Q pre) 0 0 2)] (pre++c.bX::r) bx=Z (.val (aN 6 (c.H.aZ.map Sg.aK)),pre++c.bX::r,bx):=by
 simp[CK.bX,cut]
theorem FM{wl ai bx}:bD wl ai (.load false 1 false) [.val (.ptr (Q pre) 0 0 7)] (pre++c.bX::r) bx=Z (.val (.bool c.sg.bY),pre++c.bX::r,bx):=by
 simp[CK.bX,cut,AV.aj]
theorem Il{wl ai bx}:bD wl ai (.load Y 3 false) [.val (.ptr (Q pre) 0 0 8)] (pre++c.bX::r) bx=Z (.val (.agg [.int .i64 c.sg.res.b,.int .i64 c.sg.res.r,.int .i64 c.sg.res.d]),pre++c.bX::r,bx):=by
 simp[CK.bX,cut,AV.aj]
theorem adU{wl ai bx}:bD wl ai (.load false 1 false) [.val (.ptr (Q pre) 0 0 11)] (pre++c.bX::r) bx=Z (.val (cM c.V),pre++c.bX::r,bx):=by
 simp[CK.bX,cut,cM,aN]
theorem asD{g a B}:bD 0 g (.store 2) [.val (.ptr (Q pre) 0 0 12),.val (.agg [.int .i64 3,.int .i64 a])] (pre++c.bX::r) B=Z (.none,pre++({ c with fe:=3,fa:=a }).bX::r,B):=by
 simp[CK.bX,bw,AV.aD,AV.aH,aB]
theorem jj(ai)(c:CK)(r:aO):(bh S).call 0 ai 89 [.ptr (Q pre) 0 0 0] (pre++c.bX::r)=Z (.bool (V (c.fe=0)),pre++c.bX::r):=by
 refine aG (sf:=s89) rfl rfl rfl ?_;simp[-aE,-az,s89,ax4]
theorem mC(ai)(c:CK)(a)(r:aO):(bh S).call 0 ai 151 [.ptr (Q pre) 0 0 0,.int .i64 a] (pre++c.bX::r)=Z (.fC [],pre++(c.fail a).bX::r):=by
 have e:=λai=>jj (pre:=pre) ai c r;have E:=λwl ai st=>U7.FL wl ai a st;refine aG (sf:=ahj) rfl rfl rfl ?_;unfold CK.fail;by_cases h:c.fe=0;rw[af h];simp[-aE,-az,ahj,e,E,h,asD];rw[U h];simp[-aE,-az,ahj,e,h]
theorem dK(wl ai st):(bh S).call wl ai 155 [] st=Z (.agg [.int .i64 2,.int .i64 0,.int .i64 0],st):=by
 refine bu (sf:=amd) rfl rfl (by simp) rfl (by simp[AV.aH,AV.aD]) ?_;simp[amd,aB]
theorem dX(wl ai st):(bh S).call wl ai 156 [] st=Z (.agg [.int .i64 1,.int .i64 0,.int .i64 0],st):=by
 refine bu (sf:=amk) rfl rfl (by simp) rfl (by simp[AV.aH,AV.aD]) ?_;simp[amk,aB]
def Im(k:Int):Int:=
 if k=1\/k=2\/k=3\/k=4\/k=8\/k=11 then 0
 else if k=5\/k=9\/k=10\/k=12\/k=13 then 1
 else if k=7 then -1
 else if k=6\/k=14\/k=15\/k=16\/k=17\/k=18\/k=19\/k=20\/k=21\/k=22\/k=23\/k=24 then 2
 else -2
theorem ym(W D k st):(bh S).call W D 166 [.int .i64 k] st=Z (.int .i64 (Im k),st):=by
 refine bu (sf:=tg) rfl rfl (by simp) rfl (by simp) ?_;unfold Im;by_cases H:k=1;subst H;simp[tg];by_cases j:k=2;subst j;simp[tg];by_cases l:k=3;subst l;simp[tg];by_cases o:k=4;subst o;simp[tg];by_cases r:k=8;subst r;simp[tg];by_cases F:k=11;subst F;simp[tg];by_cases O:k=5;subst O;simp[tg];by_cases s:k=9;subst s;simp[tg];by_cases h:k=10;subst h;simp[tg];by_cases t:k=12;subst t;simp[tg];by_cases w:k=13;subst w;simp[tg];by_cases q:k=7;subst q;simp[tg];by_cases p:k=6;subst p;simp[tg];by_cases g:k=14;subst g;simp[tg];by_cases C:k=15;subst C;simp[tg];by_cases y:k=16;subst y;simp[tg];by_cases v:k=17;subst v;simp[tg];by_cases B:k=18;subst B;simp[tg];by_cases x:k=19;subst x;simp[tg];by_cases z:k=20;subst z;simp[tg];by_cases n:k=21;subst n;simp[tg];by_cases N:k=22;subst N;simp[tg];by_cases m:k=23;subst m;simp[tg];by_cases U:k=24;subst U;simp[tg];simp[tg,H,j,l,o,O,p,q,r,s,h,F,t,w,g,C,y,v,B,x,z,n,N,m,U]
theorem UN(k n m):iG k n m = !(V (Im k = -2)||(V (0<=Im k) && !decide (m=Im k))||(V (k=2)&&(!decide (n=0) && !decide (n=1)))):=by
 have m0:((m:Int)=0)=(m=0):=by simp
 have M:((m:Int)=1)=(m=1):=by apply propext;omega
 have P:((m:Int)=2)=(m=2):=by apply propext;omega
 unfold iG Im;by_cases h:k=1\/k=3\/k=4\/k=8\/k=11;rcases h with h|h|h|h|h<;>subst h<;>simp;by_cases H:k=2;subst H;by_cases q:n=0<;>by_cases p:n=1<;>simp[p,q];by_cases N:k=7;subst N;simp;by_cases O:k=5\/k=9\/k=10\/k=12\/k=13;rcases O with h|h|h|h|h<;>subst h<;>simp[M];rw[U h,U H,U N,U O,ah,U O,U N];by_cases g:k=6\/14<=k/\k<=24;have e:(V (k=6)||decide (14<=k)&&V (k<=24))=Y:=by simpa using g
 rw[dM,e];simp[P,H];have e:(V (k=6)||decide (14<=k)&&V (k<=24))=false:=by simp only[Bool.or_eq_false_iff,Bool.and_eq_false_iff,decide_eq_false_iff_not];omega
 rw[ah,e];simp
end R9
namespace R9
open Ax Go aM V7 jb jn K9
variable {pre:aO}
theorem mD(ai c s)(r:aO)(z:FA c):(bh S).call 0 ai 154 [.ptr (Q pre) 0 0 0,.str s] (pre++c.bX::r)=Z (rF (vM c.H c.V s),pre++c.bX::r):=by
 have M:=z.V;have L:=z.G;have n:cU 4 (cM c.V)=Y:=wB;have m:cU 4 (cM c.H.ax)=Y:=wB;have t:bn (cM c.V)=Y:=iQ;have l:bn (cM c.H.ax)=Y:=iQ;have g:bf (cM c.V)=c.V.map Vd.aK:=tF;have h:bf (cM c.H.ax)=c.H.ax.map Vd.aK:=tF;have p:=λwl ai bx=>adU (pre:=pre) (wl:=wl) (ai:=ai) (c:=c) (r:=r) (bx:=bx);have E:=λwl ai bx=>ax6 (pre:=pre) (wl:=wl) (ai:=ai) (c:=c) (r:=r) (bx:=bx);generalize cM c.V=J,cM c.H.ax=F at *;refine aG (sf:=alZ) rfl rfl rfl ?_;generalize c.bX=o at *;simp[-aE,-az,alZ];refine bM Wg.eq_1 (λq:Nat×Int=>⟨[(0,.val (.ptr (Q pre) 0 0 0)),(1,.val (.str s)),(5,.fp 0 0),(7,.val (.int .i64 q.1))],[[.int .i64 0,.int .i64 0,.int .i64 0]],pre++o::r⟩)
  (λq=>q.1<=Q c.V/\jA s 0 c.V=jA s q.1 (c.V.drop q.1)) (λq=>Q c.V-q.1) (0,0) (by simp) ⟨by simp,by simp⟩ ?_
 rintro⟨k,B⟩ ⟨w,j⟩ I;simp only at w j I;by_cases R:k<Q c.V;have x:=wk k (by omega);rw[Db R]at j;by_cases e:c.V[k].nm=s;rw[af e]at j;unfold vM;rw[j];simp[-aE,-az,cZ,p,t,n,g,R,e,Vd.aK,rF,aA,ay,aB];rw[U e]at j;simp[-aE,-az,cZ,p,t,n,g,R,e,Vd.aK,x];exact I (k+1,0) ⟨by simp;omega,j⟩ (by simp;omega);have D:k=Q c.V:=by omega
 have y:jA s 0 c.V=K:=by rw[j,D,aaF];rfl
 simp[-aE,-az,p,t,g,R];clear I;refine bM Wh.eq_1 (λq:Nat×Int=>⟨[(0,.val (.ptr (Q pre) 0 0 0)),(1,.val (.str s)),(5,.fp 0 0),(8,.val (.int .i64 q.1))],[[.int .i64 0,.int .i64 0,.int .i64 0]],pre++o::r⟩)
  (λq=>q.1<=Q c.H.ax/\jA s 0 c.H.ax=jA s q.1 (c.H.ax.drop q.1)) (λq=>Q c.H.ax-q.1) (0,0) (by simp) ⟨by simp,by simp⟩ ?_
 rintro⟨k,B⟩ ⟨w,j⟩ I;simp only at w j I;by_cases R:k<Q c.H.ax;have x:=wk k (by omega);have C:IntKind.i64.wrap (-1-(k:Int)) = -1-(k:Int):=by rw[dg]<;>omega
 rw[Db R]at j;by_cases e:c.H.ax[k].nm=s;rw[af e]at j;unfold vM;rw[y,j];simp[-aE,-az,cZ,E,l,m,h,R,e,C,Vd.aK,rF,aA,ay,aB];rw[U e]at j;simp[-aE,-az,cZ,E,l,m,h,R,e,Vd.aK,x];exact I (k+1,0) ⟨by simp;omega,j⟩ (by simp;omega);have D:k=Q c.H.ax:=by omega
 have v:jA s 0 c.H.ax=K:=by rw[j,D,aaF];rfl
 unfold vM;rw[y,v];simp[-aE,-az,E,l,h,R,rF,aB]
theorem Dg(ai)(c:CK)(s:Sm)(r:aO)(_hn:Q s.es<1000000000):(bh S).call 0 ai 150 [.ptr (Q pre) 0 0 0,.agg s.aK] (pre++c.bX::r)=Z (.bool (fL c.sg.bY s.k s.es),pre++c.bX::r):=by
 have J:=Sm.aU s;have H:cU 11 (bL s.es)=Y:=ox;have h:bn (bL s.es)=Y:=cu;have j:(bL s.es).aj=bL s.es:=ck;have g:bf (bL s.es)=E.rows s.es:=br;have m0:((Q s.es:Int)=0)=(Q s.es=0):=by simp
 have M:((Q s.es:Int)=1)=(Q s.es=1):=by apply propext;omega
 have P:((Q s.es:Int)=2)=(Q s.es=2):=by apply propext;omega
 rw[J];generalize s.k=k at *;unfold fL;have B:bn (cn s.bd)=Y:=cW;have T:(cn s.bd).aj=cn s.bd:=bZ;have L:bn (cn s.el)=Y:=cW;have l2:(cn s.el).aj=cn s.el:=bZ;generalize cn s.bd=W,cn s.el=lv at *;have v:=λwl ai bx=>FM (pre:=pre) (wl:=wl) (ai:=ai) (c:=c) (r:=r) (bx:=bx);generalize c.bX=o at *;refine aG (sf:=th) rfl rfl rfl ?_;by_cases t:k=1;subst t;generalize bL s.es=n at *;by_cases q0:Q s.es=0;simp[-aE,-az,th,h,j,g,q0,B,L,AV.aj];simp[-aE,-az,th,h,j,g,q0,B,L,AV.aj];by_cases w:k=4;subst w;simp only[U t,bz];match C:s.es,g,P with
 |[e,m],g,P=>
  rw[C]at H h j;simp only[E.rows]at g;rw[E.aU e,E.aU m]at g;generalize bL [e,m]=n at *;by_cases q:e.k=5;simp[-aE,-az,th,cZ,H,h,j,g,q,B,L,AV.aj];simp[-aE,-az,th,cZ,H,h,j,g,q,B,L,AV.aj]
 |[],g,P=>
  rw[C]at H h j;generalize bL []=n at *;simp[-aE,-az,th,h,j,g,B,L,E.rows,AV.aj]
 |[e],g,P=>
  rw[C]at H h j;simp only[E.rows]at g;generalize bL [e]=n at *;simp[-aE,-az,th,h,j,g,B,L,AV.aj]
 |e::m::x::l,g,P=>
  rw[C]at H h j;have p:¬(Q (E.rows (e::m::x::l)):Int)=2:=by simp;omega
  generalize bL (e::m::x::l)=n,E.rows (e::m::x::l)=R at *;simp[-aE,-az,th,h,j,g,p,B,L,AV.aj]
 by_cases N:k=7;subst N;simp only[U t,U w,bz];generalize bL s.es=n at *;cases I:c.sg.bY with
 |false=>
  rw[I]at v;by_cases q0:Q s.es=0;simp[-aE,-az,th,h,j,g,q0,B,L,v,AV.aj];simp[-aE,-az,th,h,j,g,q0,B,L,v,AV.aj]
 |true=>
  rw[I]at v;by_cases q1:Q s.es=1;simp[-aE,-az,th,h,j,g,q1,B,L,v,AV.aj];simp[-aE,-az,th,h,j,g,M,q1,B,L,v,AV.aj]
 by_cases y:k=9;subst y;simp only[U t,U w,U N,bz];match C:s.es,g,P with
 |[e],g,P=>
  rw[C]at H h j;simp only[E.rows]at g;rw[E.aU e]at g;generalize bL [e]=n at *;simp[-aE,-az,th,cZ,H,h,j,g,B,L,AV.aj]
 |[],g,P=>
  rw[C]at H h j;generalize bL []=n at *;simp[-aE,-az,th,h,j,g,B,L,E.rows,AV.aj]
 |e::m::l,g,P=>
  rw[C]at H h j;have p:¬(Q (E.rows (e::m::l)):Int)=1:=by simp;omega
  generalize bL (e::m::l)=n,E.rows (e::m::l)=R at *;simp[-aE,-az,th,h,j,g,p,B,L,AV.aj]
 simp only[U t,U w,U N,U y];generalize bL s.es=n at *;by_cases z:k=2;subst z;by_cases q1:Q s.es=1;simp[-aE,-az,th,h,j,g,q1,B,L,AV.aj];simp[-aE,-az,th,h,j,g,M,q1,B,L,AV.aj];by_cases D:k=3;subst D;by_cases q1:Q s.es=1;simp[-aE,-az,th,h,j,g,q1,B,L,AV.aj];simp[-aE,-az,th,h,j,g,M,q1,B,L,AV.aj];by_cases O:k=5;subst O;by_cases q1:Q s.es=1;simp[-aE,-az,th,h,j,g,q1,B,L,AV.aj];simp[-aE,-az,th,h,j,g,M,q1,B,L,AV.aj];by_cases F:k=6;subst F;by_cases q1:Q s.es=1;simp[-aE,-az,th,h,j,g,q1,B,L,AV.aj];simp[-aE,-az,th,h,j,g,M,q1,B,L,AV.aj];by_cases G:k=8;subst G;by_cases q1:Q s.es=1;simp[-aE,-az,th,h,j,g,q1,B,L,AV.aj];simp[-aE,-az,th,h,j,g,M,q1,B,L,AV.aj];simp[-aE,-az,th,h,B,L,t,z,D,w,O,F,N,G,y,AV.aj]
end R9
namespace R9
open Ax Go aM V7 jb jn K9
variable {pre:aO}
abbrev nt(k n:Int)(nm on:List UInt8)(od:Int)(kv:AV)(a:Int)(t:T3)(z:Int):List AV:=[.int .i64 k,.int .i64 n,.str nm,.str on,.int .i64 od,kv,.int .i64 a,.int .i64 t.b,.int .i64 t.r,.int .i64 t.d,.int .i64 z]
theorem fj{wl ai n k agg o}{r0 g:aO}{C bx}:bD wl ai (.load agg n false) [.val (.ptr (Q pre+(Q r0+1)) 0 0 k)] (pre++o::(r0++.rows 0 11 [C]::g)) bx =
  vJ (pre++o::(r0++.rows 0 11 [C]::g)) bx ((cut C k n).bind λC=>bO agg (AV.cP C)):=by
 rw[aE];simp[gP]
theorem cN{ai n k o}{r0 g:aO}{C v bx}(h:Q v.cells=n)(H:AV.bG v.cells=Y)(l:k+Q v.cells<=Q C)(m:AV.aD v.cells=Y):
  bD 0 ai (.store n) [.val (.ptr (Q pre+(Q r0+1)) 0 0 k),.val v] (pre++o::(r0++.rows 0 11 [C]::g)) bx=Z (.none,pre++o::(r0++.rows 0 11 [aB C k v.cells]::g),bx):=by
 rw[az,af ⟨h,H⟩];simp[gT,bw,l,m]
theorem iH{wl ai n j k v agg o x}{r0 g:aO}{rows bx}:bD wl ai (.load agg n false) [.val (.ptr (Q pre+(Q r0+1+1)) v j k)] (pre++o::(r0++x::.rows v 11 rows::g)) bx =
  vJ (pre++o::(r0++x::.rows v 11 rows::g)) bx ((match rows[j]? with|some C=>cut C k n|none=>K).bind λC=>bO agg (AV.cP C)):=by
 rw[aE];cases h:rows[j]?<;>simp[gP,h]
def sgR(k:Int):T3:=if k=12\/k=14\/k=15\/k=16\/k=17\/k=18 then tI else tB
def sgB(k:Int)(a b:T3):Bool:=if k=12\/k=14\/k=15\/k=16\/k=17\/k=18\/k=19\/k=20 then V (a=tI)&&V (b=tI) else if k=21\/k=22 then V (a=b) else V (a=tB)&&V (b=tB)
theorem Zo(g o)(r0:aO)(k n N m O a z t)(y:E)(H:k=12\/k=13):
  (bh S).call 0 g 167 [.ptr (Q pre) 0 0 0,.ptr (Q pre+(Q r0+1)) 0 0 0] (pre++o::(r0++[.rows 0 11 [nt k n N m O (.mu (Q pre+(Q r0+1+1)) 0) a t z],.rows 0 11 [y.aK]])) =
  Z (.bool (sgB k y.ty y.ty),pre++o::(r0++[.rows 0 11 [nt k n N m O (.mu (Q pre+(Q r0+1+1)) 0) a (sgR k) z],.rows 0 11 [y.aK]])):=by
 have j:=λC g st=>dX C g st;have l:=λC g st=>dK C g st;rw[E.aU];refine aG (sf:=uW) rfl rfl rfl ?_;unfold sgB sgR;rcases H with h|h<;>subst h;by_cases q:y.ty=tI;simp[-aE,-az,uW,fj,cN,iH,j,q,aA,ay,aB,AV.aj];simp[-aE,-az,uW,fj,cN,iH,j,K9.dI,q,aA,ay,aB,AV.aj];by_cases q:y.ty=tB;simp[-aE,-az,uW,fj,cN,iH,l,q,aA,ay,aB,AV.aj];simp[-aE,-az,uW,fj,cN,iH,l,dB,q,aA,ay,aB,AV.aj]
theorem Zp(g o)(r0:aO)(k n D F O a z t)(x y:E)(H:14<=k):
  (bh S).call 0 g 167 [.ptr (Q pre) 0 0 0,.ptr (Q pre+(Q r0+1)) 0 0 0] (pre++o::(r0++[.rows 0 11 [nt k n D F O (.mu (Q pre+(Q r0+1+1)) 1) a t z],.rows 1 11 [x.aK,y.aK]])) =
  Z (.bool (sgB k x.ty y.ty),pre++o::(r0++[.rows 0 11 [nt k n D F O (.mu (Q pre+(Q r0+1+1)) 1) a (sgR k) z],.rows 1 11 [x.aK,y.aK]])):=by
 have j:=λw g st=>dX w g st;have l:=λw g st=>dK w g st;have G:k≠12:=by omega
 rw[E.aU x,E.aU y];refine aG (sf:=uW) rfl rfl rfl ?_;unfold sgB sgR;by_cases h:k=14;subst h;by_cases q:x.ty=tI;simp[-aE,-az,uW,fj,cN,iH,j,K9.dI,q,aA,ay,aB,AV.aj];simp[-aE,-az,uW,fj,cN,iH,j,K9.dI,q,aA,ay,aB,AV.aj];by_cases C:k=15;subst C;by_cases q:x.ty=tI;simp[-aE,-az,uW,fj,cN,iH,j,K9.dI,q,aA,ay,aB,AV.aj];simp[-aE,-az,uW,fj,cN,iH,j,K9.dI,q,aA,ay,aB,AV.aj];by_cases p:k=16;subst p;by_cases q:x.ty=tI;simp[-aE,-az,uW,fj,cN,iH,j,K9.dI,q,aA,ay,aB,AV.aj];simp[-aE,-az,uW,fj,cN,iH,j,K9.dI,q,aA,ay,aB,AV.aj];by_cases v:k=17;subst v;by_cases q:x.ty=tI;simp[-aE,-az,uW,fj,cN,iH,j,K9.dI,q,aA,ay,aB,AV.aj];simp[-aE,-az,uW,fj,cN,iH,j,K9.dI,q,aA,ay,aB,AV.aj];by_cases B:k=18;subst B;by_cases q:x.ty=tI;simp[-aE,-az,uW,fj,cN,iH,j,K9.dI,q,aA,ay,aB,AV.aj];simp[-aE,-az,uW,fj,cN,iH,j,K9.dI,q,aA,ay,aB,AV.aj];by_cases s:k=19;subst s;by_cases q:x.ty=tI;simp[-aE,-az,uW,fj,cN,iH,j,l,K9.dI,q,aA,ay,aB,AV.aj];simp[-aE,-az,uW,fj,cN,iH,j,l,K9.dI,q,aA,ay,aB,AV.aj];by_cases r:k=20;subst r;by_cases q:x.ty=tI;simp[-aE,-az,uW,fj,cN,iH,j,l,K9.dI,q,aA,ay,aB,AV.aj];simp[-aE,-az,uW,fj,cN,iH,j,l,K9.dI,q,aA,ay,aB,AV.aj];by_cases N:k=21;subst N;simp[-aE,-az,uW,fj,cN,iH,l,dU,aB,AV.aj];by_cases m:k=22;subst m;simp[-aE,-az,uW,fj,cN,iH,l,dU,aB,AV.aj];by_cases q:x.ty=tB;simp[-aE,-az,uW,fj,cN,iH,l,G,h,C,p,v,B,s,r,N,m,dB,q,aA,ay,aB,AV.aj];simp[-aE,-az,uW,fj,cN,iH,l,G,h,C,p,v,B,s,r,N,m,dB,q,aA,ay,aB,AV.aj]
theorem Zq{H v k N O o j}(m:12<=k):nN H v k N O o j=KT (sgB k (Fs j) (if k=12\/k=13 then Fs j else LJ j)) (sgR k):=by
 unfold nN sgB sgR;rw[ah,ah,ah,ah,ah,ah,ah,ah,ah,ah];by_cases t:k=12;subst t;simp;by_cases w:k=13;subst w;simp;unfold pV;rw[U t,U w];have g:(if k=12\/k=13 then Fs j else LJ j)=LJ j:=ah;rw[g];by_cases c1:k=14\/k=15\/k=16\/k=17\/k=18;rcases c1 with h|h|h|h|h<;>subst h<;>simp;rw[U c1];by_cases c2:k=19\/k=20;rcases c2 with h|h<;>subst h<;>simp;rw[U c2,U (show ¬(k=12\/k=14\/k=15\/k=16\/k=17\/k=18\/k=19\/k=20) by omega),U (show ¬(k=12\/k=14\/k=15\/k=16\/k=17\/k=18) by omega)];split<;>rfl
end R9
namespace R9
open Ax Go aM V7 jb jn K9
variable {pre:aO}
def Pj(pre:aO)(o:iW)(r0 g:aO)(q:Option (T3×Int))(h:T3->Int->List AV)(v:AV)(st:aO):Prop:=∃b y,v=.bool b/\st=pre++o::(r0++y::g)/\match q with
 |none=>b=false|some (u,z)=>b=Y/\y=.rows 0 11 [h u z]
theorem kS{o r0 g h y}:Pj pre o r0 g K h (.bool false) (pre++o::(r0++y::g)):=⟨false,y,rfl,rfl,rfl⟩
theorem qF{o r0 g h u z}:Pj pre o r0 g (Z (u,z)) h (.bool Y) (pre++o::(r0++.rows 0 11 [h u z]::g)):=⟨Y,_,rfl,rfl,rfl,rfl⟩
theorem FO{o r0 g h u b}:Pj pre o r0 g (KT b u) h (.bool b) (pre++o::(r0++.rows 0 11 [h u 0]::g)):=by
 cases b;exact kS;exact qF
theorem adV(ai c r0)(e:E)(k n nm on W a z t v l)(hs:FA c)(hn:Q l<1000000000):
  ∃v' M,(bh S).call 0 ai 182 [.ptr (Q pre) 0 0 0,.agg e.aK,.ptr (Q pre+(Q r0+1)) 0 0 0] (pre++c.bX::(r0++[.rows 0 11 [nt k n nm on W (.mu (Q pre+(Q r0+1+1)) v) a t z],.rows v 11 (E.rows l)]))=Z (v',M)/\
   Pj pre c.bX r0 [.rows v 11 (E.rows l)] (sq c.H e.nm l) (nt k n e.nm on W (.mu (Q pre+(Q r0+1+1)) v) a) v' M:=by
 have hS:=hs.S;have D:cU 6 (aN 6 (c.H.aZ.map Sg.aK))=Y:=jz (by simp[cy,Sg.aK]);have w:bn (aN 6 (c.H.aZ.map Sg.aK))=Y:=bU;have p:bf (aN 6 (c.H.aZ.map Sg.aK))=c.H.aZ.map Sg.aK:=br;have m:=λwl ai r bx=>asC (pre:=pre) (wl:=wl) (ai:=ai) (c:=c) (r:=r) (bx:=bx);have uy:bn (bL e.aP)=Y:=cu;have To:(bL e.aP).aj=bL e.aP:=ck;rw[E.aU e];generalize bL e.aP=kv,aN 6 (c.H.aZ.map Sg.aK)=SV,c.bX=o at *;refine ki (sf:=acM) rfl rfl rfl ?_;simp[-aE,-az,acM,cN,uy,aB];refine bM Oy.eq_1 (λq:Nat×List AV=>⟨[(0,.val (.ptr (Q pre) 0 0 0)),(2,.val (.ptr (Q pre+(Q r0+1)) 0 0 0)),(4,.fp 0 0),(7,.val (.int .i64 q.1))],[[.int .i64 e.k,.int .i64 e.n,.str e.nm,.str e.on,.int .i64 e.od,kv,.int .i64 e.a,.int .i64 e.ty.b,.int .i64 e.ty.r,.int .i64 e.ty.d,.int .i64 e.ref],q.2],
   pre++o::(r0++[.rows 0 11 [nt k n e.nm on W (.mu (Q pre+(Q r0+1+1)) v) a t z],.rows v 11 (E.rows l)])⟩)
  (λq=>q.1<=Q c.H.aZ/\vq e.nm 0 c.H.aZ=vq e.nm q.1 (c.H.aZ.drop q.1)) (λq=>Q c.H.aZ-q.1) (0,[]) (by simp) ⟨by simp,by simp⟩ ?_
 rintro⟨i,b1⟩ ⟨hi,C⟩ I;simp only at hi C I;by_cases R:i<Q c.H.aZ;have hw:=wk i (by omega);rw[RZ R]at C;have gS:∀h:i<Q (c.H.aZ.map Sg.aK),(c.H.aZ.map Sg.aK)[i]=[.str c.H.aZ[i].nm,cM c.H.aZ[i].ps,.bool c.H.aZ[i].bY,.int .i64 c.H.aZ[i].res.b,.int .i64 c.H.aZ[i].res.r,.int .i64 c.H.aZ[i].res.d]:=λh=>by simp[Sg.aK]
 have T:i<Q (c.H.aZ.map Sg.aK):=by simpa using R
 have Tp:=gS T;clear gS;have hnp:=hs.P _ (aah R);have F:cU 4 (cM c.H.aZ[i].ps)=Y:=wB;have oQ:bn (cM c.H.aZ[i].ps)=Y:=iQ;have s:bf (cM c.H.aZ[i].ps)=c.H.aZ[i].ps.map Vd.aK:=tF;have UE:(cM c.H.aZ[i].ps).aj=cM c.H.aZ[i].ps:=l8;have iD:=λb1=>I (i+1,b1);simp only at iD;generalize hRS:c.H.aZ.map Sg.aK=RS at *;have hgg:c.H.aZ[i]?=Z c.H.aZ[i]:=aae R;generalize c.H.aZ[i]=g at *;by_cases h:g.nm=e.nm;rw[af h]at C;have uT:sq c.H e.nm l=if jV g.ps l then Z (g.res,(i:Int)) else K:=by unfold sq;rw[C]
 rw[uT];by_cases O:Q g.ps=Q l;generalize cM g.ps=PV at *;simp[-aE,-az,fj,cZ,m,w,D,p,T,Tp,oQ,s,UE,h,O,bF,bP,aB];clear I iD;refine bM Ox.eq_1 (λj:Nat=>⟨[(2,.val (.ptr (Q pre+(Q r0+1)) 0 0 0)),(7,.val (.int .i64 i)),(8,.fp 1 0),(9,.val (.int .i64 j))],[[.int .i64 e.k,.int .i64 e.n,.str e.nm,.str e.on,.int .i64 e.od,kv,.int .i64 e.a,.int .i64 e.ty.b,.int .i64 e.ty.r,.int .i64 e.ty.d,.int .i64 e.ref],
   [.str e.nm,PV,.bool g.bY,.int .i64 g.res.b,.int .i64 g.res.r,.int .i64 g.res.d]],
   pre++o::(r0++[.rows 0 11 [nt k n e.nm on W (.mu (Q pre+(Q r0+1+1)) v) a t z],.rows v 11 (E.rows l)])⟩)
  (λj=>j<=Q l/\jV g.ps l=jV (g.ps.drop j) (l.drop j)) (λj=>Q l-j) 0 (by simp) ⟨by simp,by simp⟩ ?_
 rintro j ⟨hj,x⟩ I;by_cases p9:j<Q l;have hwj:=wk j (by omega);have B:j<Q g.ps:=by omega
 rw[Zf B p9]at x;have gE:=Nd p9;have gV:∀h:j<Q (g.ps.map Vd.aK),(g.ps.map Vd.aK)[j]=[.str g.ps[j].nm,.int .i64 g.ps[j].ty.b,.int .i64 g.ps[j].ty.r,.int .i64 g.ps[j].ty.d]:=λh=>by simp[Vd.aK]
 have L:j<Q (g.ps.map Vd.aK):=by simpa using B
 have G:=gV L;clear gV;have gV2:(g.ps.map Vd.aK)[j]?=Z [.str g.ps[j].nm,.int .i64 g.ps[j].ty.b,.int .i64 g.ps[j].ty.r,.int .i64 g.ps[j].ty.d]:=by simp[B,Vd.aK]
 rw[E.aU]at gE;have VM:j<Q (E.rows l):=by simpa using p9
 have DI:=Ch p9 VM;rw[E.aU]at DI;generalize hRY:E.rows l=RY at *;generalize hRP:g.ps.map Vd.aK=RP at *;by_cases J:l[j].ty=g.ps[j].ty;have dq:(V (l[j].ty.b=g.ps[j].ty.b)&&(V (l[j].ty.r=g.ps[j].ty.r)&&V (l[j].ty.d=g.ps[j].ty.d)))=Y:=by rw[dU];exact cH J
 rw[cH J,Bool.true_and]at x;generalize l[j]=y,g.ps[j]=f at *;simp[-aE,-az,fj,iH,cZ,VM,DI,G,F,s,L,J,hwj,bF,bP];exact I (j+1) ⟨by omega,x⟩ (by omega);rw[eX J,Bool.false_and]at x;rw[x];generalize l[j]=y,g.ps[j]=f at *;simp[-aE,-az,fj,iH,cZ,VM,DI,G,F,s,L,dU,J,bF,bP];exact kS;have N:j=Q l:=by omega
 have:jV g.ps l=Y:=by rw[x,N,aaF,<-O,aaF];rfl
 rw[this];simp[-aE,-az,fj,cN,N,aB];exact qF;have eC:jV g.ps l=false:=by
  cases x:jV g.ps l with
  |false=>rfl|true=>exact bH (K3 x) O
 rw[eC];generalize cM g.ps=PV at *;simp[-aE,-az,fj,cZ,m,w,D,p,T,Tp,oQ,s,UE,h,O,bF,bP,aB];exact kS;rw[U h]at C;generalize cM g.ps=PV at *;simp[-aE,-az,cZ,m,w,D,p,T,Tp,oQ,UE,h,hw,aB];exact iD _ ⟨by omega,C⟩ (by omega);have N:i=Q c.H.aZ:=by omega
 have eC:vq e.nm 0 c.H.aZ=K:=by rw[C,N,aaF];rfl
 have uT:sq c.H e.nm l=K:=by unfold sq;rw[eC]
 rw[uT];simp[-aE,-az,m,w,p,R];exact kS
end R9
namespace R9
open Ax Go aM V7 jb jn K9
variable {pre:aO}
theorem Fe(ai c r0)(e:E)(k n nm y O a z t)(hs:FA c):
  ∃v' v,(bh S).call 0 ai 182 [.ptr (Q pre) 0 0 0,.agg e.aK,.ptr (Q pre+(Q r0+1)) 0 0 0] (pre++c.bX::(r0++[.rows 0 11 [nt k n nm y O .aF a t z]]))=Z (v',v)/\
   Pj pre c.bX r0 [] (sq c.H e.nm []) (nt k n e.nm y O .aF a) v' v:=by
 have hS:=hs.S;have D:cU 6 (aN 6 (c.H.aZ.map Sg.aK))=Y:=jz (by simp[cy,Sg.aK]);have w:bn (aN 6 (c.H.aZ.map Sg.aK))=Y:=bU;have p:bf (aN 6 (c.H.aZ.map Sg.aK))=c.H.aZ.map Sg.aK:=br;have m:=λwl ai r bx=>asC (pre:=pre) (wl:=wl) (ai:=ai) (c:=c) (r:=r) (bx:=bx);have uy:bn (bL e.aP)=Y:=cu;have To:(bL e.aP).aj=bL e.aP:=ck;rw[E.aU e];generalize bL e.aP=kv,aN 6 (c.H.aZ.map Sg.aK)=SV,c.bX=o at *;refine ki (sf:=acM) rfl rfl rfl ?_;simp[-aE,-az,acM,cN,uy,aB];refine bM Oy.eq_1 (λq:Nat×List AV=>⟨[(0,.val (.ptr (Q pre) 0 0 0)),(2,.val (.ptr (Q pre+(Q r0+1)) 0 0 0)),(4,.fp 0 0),(7,.val (.int .i64 q.1))],[[.int .i64 e.k,.int .i64 e.n,.str e.nm,.str e.on,.int .i64 e.od,kv,.int .i64 e.a,.int .i64 e.ty.b,.int .i64 e.ty.r,.int .i64 e.ty.d,.int .i64 e.ref],q.2],
   pre++o::(r0++[.rows 0 11 [nt k n e.nm y O .aF a t z]])⟩)
  (λq=>q.1<=Q c.H.aZ/\vq e.nm 0 c.H.aZ=vq e.nm q.1 (c.H.aZ.drop q.1)) (λq=>Q c.H.aZ-q.1) (0,[]) (by simp) ⟨by simp,by simp⟩ ?_
 rintro⟨i,W⟩ ⟨hi,l⟩ I;simp only at hi l I;by_cases R:i<Q c.H.aZ;have hw:=wk i (by omega);rw[RZ R]at l;have gS:∀h:i<Q (c.H.aZ.map Sg.aK),(c.H.aZ.map Sg.aK)[i]=[.str c.H.aZ[i].nm,cM c.H.aZ[i].ps,.bool c.H.aZ[i].bY,.int .i64 c.H.aZ[i].res.b,.int .i64 c.H.aZ[i].res.r,.int .i64 c.H.aZ[i].res.d]:=λh=>by simp[Sg.aK]
 have M:i<Q (c.H.aZ.map Sg.aK):=by simpa using R
 have T:=gS M;clear gS;have hnp:=hs.P _ (aah R);have hzp:cU 4 (cM c.H.aZ[i].ps)=Y:=wB;have L:bn (cM c.H.aZ[i].ps)=Y:=iQ;have s:bf (cM c.H.aZ[i].ps)=c.H.aZ[i].ps.map Vd.aK:=tF;have C:(cM c.H.aZ[i].ps).aj=cM c.H.aZ[i].ps:=l8;have J:=λW=>I (i+1,W);simp only at J;generalize hRS:c.H.aZ.map Sg.aK=RS at *;have hgg:c.H.aZ[i]?=Z c.H.aZ[i]:=aae R;generalize c.H.aZ[i]=g at *;by_cases h:g.nm=e.nm;rw[af h]at l;have N:sq c.H e.nm []=if jV g.ps [] then Z (g.res,(i:Int)) else K:=by unfold sq;rw[l]
 rw[N];by_cases x:Q g.ps=0;generalize cM g.ps=B at *;simp[-aE,-az,fj,cZ,m,w,D,p,M,T,L,s,C,h,x,bF,bP,aB];clear I J;refine bM Ox.eq_1 (λj:Nat=>⟨[(2,.val (.ptr (Q pre+(Q r0+1)) 0 0 0)),(7,.val (.int .i64 i)),(8,.fp 1 0),(9,.val (.int .i64 j))],[[.int .i64 e.k,.int .i64 e.n,.str e.nm,.str e.on,.int .i64 e.od,kv,.int .i64 e.a,.int .i64 e.ty.b,.int .i64 e.ty.r,.int .i64 e.ty.d,.int .i64 e.ref],
   [.str e.nm,B,.bool g.bY,.int .i64 g.res.b,.int .i64 g.res.r,.int .i64 g.res.d]],
   pre++o::(r0++[.rows 0 11 [nt k n e.nm y O .aF a t z]])⟩)
  (λj=>j<=0/\jV g.ps []=jV (g.ps.drop j) []) (λj=>0-j) 0 (by simp) ⟨by simp,by simp⟩ ?_
 rintro j ⟨hj,hq⟩ I;have F:j=0:=by omega
 have:jV g.ps []=Y:=by rw[List.length_eq_zero_iff.1 x];rfl
 rw[this];simp[-aE,-az,fj,cN,F,aB];exact qF;have G:jV g.ps []=false:=by
  cases hq:jV g.ps [] with
  |false=>rfl|true=>exact bH (K3 hq) x
 rw[G];generalize cM g.ps=B at *;simp[-aE,-az,fj,cZ,m,w,D,p,M,T,L,s,C,h,x,bF,bP,aB];exact kS;rw[U h]at l;generalize cM g.ps=B at *;simp[-aE,-az,cZ,m,w,D,p,M,T,L,C,h,hw,aB];exact J _ ⟨by omega,l⟩ (by omega);have F:i=Q c.H.aZ:=by omega
 have G:vq e.nm 0 c.H.aZ=K:=by rw[l,F,aaF];rfl
 have N:sq c.H e.nm []=K:=by unfold sq;rw[G]
 rw[N];simp[-aE,-az,m,w,p,R];exact kS
theorem Zr{l}:D1 (aN 1 (mQ l))=Y:=by
 unfold D1 ij;rw[N7.Fy,N7.Da (by simp[cy,mQ]),br];simp[mQ,WK]
theorem Sv{l}:pT (aN 1 (mQ l))=l:=by
 simp only[pT,br,mQ,List.map_map];conv=>rhs;rw[<-List.map_id l]
 exact List.map_congr_left λ_ _=>rfl
theorem Pk(wl ai l s d st)(g:Q l<1000000000):
  (bh S).call wl ai 133 [aN 1 (mQ l),.agg [.str s,.int .i64 d]] st=Z (tyV (dz l s d),st):=by
 rw[U7.Le wl ai (aN 1 (mQ l)) s d st Zr (by rw[Sv];exact g),Sv]
 rfl
theorem AO(wl ai t st):(bh S).call wl ai 44 [.agg [.int .i64 t.b,.int .i64 t.r,.int .i64 t.d]] st=Z (.bool (lS t),st):=U7.AO wl ai t st
def vW(i:Nat)(ys:List E):AV:=if ys.isEmpty then .aF else .mu i (Q ys-1)
def kK(ys:List E):aO:=if ys.isEmpty then [] else [.rows (Q ys-1) 11 (E.rows ys)]
theorem adY(ai c)(r0:aO)(e:E)(k n N O o a z t g)(j:FA c)(m:Q g<1000000000):
  ∃h s,(bh S).call 0 ai 182 [.ptr (Q pre) 0 0 0,.agg e.aK,.ptr (Q pre+(Q r0+1)) 0 0 0] (pre++c.bX::(r0++.rows 0 11 [nt k n N O o (vW (Q pre+(Q r0+1+1)) g) a t z]::kK g))=Z (h,s)/\
   Pj pre c.bX r0 (kK g) (sq c.H e.nm g) (nt k n e.nm O o (vW (Q pre+(Q r0+1+1)) g) a) h s:=by
 cases g with
 |nil=>exact Fe (pre:=pre) ai c r0 e k n N O o a z t j|cons y l=>exact adV (pre:=pre) ai c r0 e k n N O o a z t (Q (y::l)-1) (y::l) j m
end R9
namespace R9
open Ax Go aM V7 jb jn K9
variable {pre:aO}
theorem K1(ai c)(r0:aO)(e:E)(s)(hs:FA c)(hn:Q s<1000000000)(D:iG e.k e.n (Q s)=Y)(sM:e.k<12)(hRS:Q c.H.rs=Q c.H.bN)(hw:∀x∈s,WT (Q c.H.rs) x.ty):
  ∃v' O,(bh S).call 0 ai 168 [.ptr (Q pre) 0 0 0,.agg e.aK,.ptr (Q pre+(Q r0+1)) 0 0 0] (pre++c.bX::(r0++.rows 0 11 [nt e.k 0 [] [] 0 (vW (Q pre+(Q r0+1+1)) s) e.a T0 0]::kK s))=Z (v',O)/\
   Pj pre c.bX r0 (kK s) (nN c.H c.V e.k e.nm e.on e.od s) (nt e.k (wZ e.k e.n) (w6 e.k e.nm) (w7 e.k e.on) (w8 e.k e.od) (vW (Q pre+(Q r0+1+1)) s) e.a) v' O:=by
 have eI:=λwl ai st=>dX wl ai st;have eT:=λwl ai st=>dK wl ai st;have eV:=λai r=>mD (pre:=pre) ai c e.nm r hs;have C:=λwl ai st=>Pk wl ai c.H.rs e.on e.od st hs.R;have m:=λwl ai st=>AO wl ai (dz c.H.rs e.on e.od).1 st;have ecl:=λai k n nm on od a z t=>adY (pre:=pre) ai c r0 e k n nm on od a z t s hs hn;have w:=λwl ai r bx=>anb (pre:=pre) (wl:=wl) (ai:=ai) (c:=c) (r:=r) (bx:=bx);have esh:=λwl ai r bx=>ax5 (pre:=pre) (wl:=wl) (ai:=ai) (c:=c) (r:=r) (bx:=bx);have p:bn (bL e.aP)=Y:=cu;have To:(bL e.aP).aj=bL e.aP:=ck;have hwt:=qP c.H.rs e.on e.od;rw[E.aU e]at *;generalize bL e.aP=kv at *;have nil:∀j,e.k=j->(j=1\/j=2\/j=3\/j=4\/j=8\/j=11)->s=[]:=λj W h=>by
  rw[W]at D;rcases h with h|h|h|h|h|h<;>subst h<;>simp[iG]at D<;>first|exact D|exact D.1
 have one:∀j,e.k=j->(j=5\/j=9\/j=10)->∃x,s=[x]:=λj W h=>by
  have G:Q s=1:=by
   rw[W]at D;rcases h with h|h|h<;>subst h<;>simpa [iG] using D
  match s,G with
  |[x],_=>exact⟨x,rfl⟩
 by_cases h1:e.k=1;have I:=nil 1 h1 (by simp);subst I;rw[h1];refine ki (sf:=o6) rfl rfl rfl ?_;simp[-aE,-az,o6,cN,vW,kK,eI,p,aB,AV.aj];exact qF;by_cases h2:e.k=2;have I:=nil 2 h2 (by simp);subst I;rw[h2];refine ki (sf:=o6) rfl rfl rfl ?_;simp[-aE,-az,o6,cN,vW,kK,eT,p,aB,AV.aj];exact qF;by_cases yh:e.k=11;have I:=nil 11 yh (by simp);subst I;rw[yh];refine ki (sf:=o6) rfl rfl rfl ?_;simp[-aE,-az,o6,cN,vW,kK,eI,p,aB,AV.aj];exact qF;by_cases h3:e.k=3;have I:=nil 3 h3 (by simp);subst I;rw[h3];have M:nN c.H c.V 3 e.nm e.on e.od []=KT ((dz c.H.rs e.on e.od).2&&lS (dz c.H.rs e.on e.od).1) (dz c.H.rs e.on e.od).1:=rfl;rw[M];refine ki (sf:=o6) rfl rfl rfl ?_;unfold tyV at C;generalize dz c.H.rs e.on e.od=tt at *;obtain⟨t,b⟩:=tt;generalize c.bX=o at *;cases b;simp[-aE,-az,o6,cN,vW,kK,w,C,p,aB,AV.aj,bF,bP];exact kS;cases N:lS t with
 |false=>
  rw[N]at m;simp[-aE,-az,o6,cN,vW,kK,w,C,m,p,aB,AV.aj,bF,bP];exact kS
 |true=>
  rw[N]at m;simp[-aE,-az,o6,cN,vW,kK,w,C,m,p,aB,AV.aj,bF,bP];exact qF
 by_cases h8:e.k=8;have I:=nil 8 h8 (by simp);subst I;rw[h8];have M:nN c.H c.V 8 e.nm e.on e.od []=KT ((dz c.H.rs e.on e.od).2&&V ((dz c.H.rs e.on e.od).1.b=3)&&V ((dz c.H.rs e.on e.od).1.d=0)) (dz c.H.rs e.on e.od).1:=rfl;rw[M];refine ki (sf:=o6) rfl rfl rfl ?_;unfold tyV at C;generalize dz c.H.rs e.on e.od=tt at *;obtain⟨t,b⟩:=tt;generalize c.bX=o at *;cases b;simp[-aE,-az,o6,cN,vW,kK,w,C,p,aB,AV.aj,bF,bP];exact kS;by_cases J:t.d=0;have EG:(t.d=0)=True:=eq_true J;by_cases B:t.b=3;have N:lS t=Y:=by unfold lS;simp[B]
 rw[N]at m;rw[cH B,cH J];simp[-aE,-az,o6,cN,vW,kK,w,C,m,EG,p,aB,AV.aj,bF,bP];exact qF;have N:lS t=false:=by unfold lS;simp[B,J]
 rw[N]at m;rw[eX B];simp[-aE,-az,o6,cN,vW,kK,w,C,m,p,aB,AV.aj,bF,bP];exact kS;cases N:lS t with
 |false=>
  rw[N]at m;simp[-aE,-az,o6,cN,vW,kK,w,C,m,J,p,aB,AV.aj,bF,bP];exact kS
 |true=>
  rw[N]at m;simp[-aE,-az,o6,cN,vW,kK,w,C,m,J,p,aB,AV.aj,bF,bP];exact kS
 by_cases h4:e.k=4;have I:=nil 4 h4 (by simp);subst I;rw[h4];have M:nN c.H c.V 4 e.nm e.on e.od []=vM c.H c.V e.nm:=rfl;rw[M];refine ki (sf:=o6) rfl rfl rfl ?_;generalize vM c.H c.V e.nm=vt,c.bX=o at *;cases vt with
 |none=>
  simp[-aE,-az,o6,cN,vW,kK,eV,rF,p,aB,AV.aj];exact kS
 |some x=>
  simp[-aE,-az,o6,cN,vW,kK,eV,rF,p,aB,AV.aj];exact qF
 by_cases h9:e.k=9;obtain⟨y,rfl⟩:=one 9 h9 (by simp);rw[h9];have M:nN c.H c.V 9 e.nm e.on e.od [y]=KT ((dz c.H.rs e.on e.od).2&&V ((dz c.H.rs e.on e.od).1.d<3)&&V (y.ty=tI)) ⟨(dz c.H.rs e.on e.od).1.b,(dz c.H.rs e.on e.od).1.r,(dz c.H.rs e.on e.od).1.d+1⟩:=rfl;rw[M];refine ki (sf:=o6) rfl rfl rfl ?_;have T:IntKind.i64.wrap ((dz c.H.rs e.on e.od).1.d+1)=(dz c.H.rs e.on e.od).1.d+1:=by
  have:=hwt.1;have:=hwt.2.1;rw[dg]<;>omega
 unfold tyV at C;generalize dz c.H.rs e.on e.od=tt at *;obtain⟨t,b⟩:=tt;generalize c.bX=o at *;dsimp only;cases b;simp[-aE,-az,o6,cN,vW,kK,E.rows,E.aU,w,C,T,p,aB,AV.aj,aA,bF,bP,ay];exact kS;by_cases q:t.d<3;simp[-aE,-az,o6,fj,cN,iH,vW,kK,E.rows,E.aU,w,C,eI,K9.dI,q,T,p,aB,AV.aj,aA,bF,bP,ay];exact FO;simp[-aE,-az,o6,cN,vW,kK,E.rows,E.aU,w,C,q,T,p,aB,AV.aj,aA,bF,bP,ay];exact kS;by_cases A8:e.k=10;obtain⟨y,rfl⟩:=one 10 A8 (by simp);rw[A8];have M:nN c.H c.V 10 e.nm e.on e.od [y]=KT (V (0<y.ty.d)) tI:=rfl;rw[M];refine ki (sf:=o6) rfl rfl rfl ?_;generalize c.bX=o at *;simp[-aE,-az,o6,fj,cN,iH,vW,kK,E.rows,E.aU,eI,p,aB,AV.aj];exact FO;by_cases h6:e.k=6;obtain⟨x,y,rfl⟩:∃x y,s=[x,y]:=by
  have G:Q s=2:=by rw[h6]at D;simpa [iG] using D
  match s,G with
  |[x,y],_=>exact⟨x,y,rfl⟩
 rw[h6];have M:nN c.H c.V 6 e.nm e.on e.od [x,y]=KT (V (0<x.ty.d)&&V (y.ty=tI)) ⟨x.ty.b,x.ty.r,x.ty.d-1⟩:=rfl;rw[M];have T:IntKind.i64.wrap (x.ty.d-1)=x.ty.d-1:=by
  have wx:=hw x (by simp);have:=wx.1;have:=wx.2.1;rw[dg]<;>omega
 refine ki (sf:=o6) rfl rfl rfl ?_;generalize c.bX=o at *;by_cases q:0<x.ty.d;simp[-aE,-az,o6,fj,cN,iH,vW,kK,E.rows,E.aU,eI,K9.dI,q,T,p,aB,AV.aj,aA,ay];exact FO;simp[-aE,-az,o6,fj,cN,iH,vW,kK,E.rows,E.aU,q,T,p,aB,AV.aj,aA,ay];exact kS;by_cases h5:e.k=5;obtain⟨y,rfl⟩:=one 5 h5 (by simp);rw[h5];have M:nN c.H c.V 5 e.nm e.on e.od [y]=AB c.H y.ty e.nm:=rfl;rw[M];refine ki (sf:=o6) rfl rfl rfl ?_;have hzs:cU 2 (aN 2 (c.H.bN.map gh))=Y:=jz (by simp[cy,gh]);have Bt:bn (aN 2 (c.H.bN.map gh))=Y:=bU;have Nh:bf (aN 2 (c.H.bN.map gh))=c.H.bN.map gh:=br;generalize aN 2 (c.H.bN.map gh)=SV,c.bX=o at *;unfold AB;by_cases B:y.ty.b=3;by_cases J:y.ty.d=0;rw[af ⟨B,J⟩];have wy:=(hw y (by simp)).2.2 B;rw[hRS]at wy;obtain⟨j,W⟩:∃j:Nat,y.ty.r=j:=⟨y.ty.r.toNat,by omega⟩;have p9:j<Q c.H.bN:=by omega
 have hg:c.H.bN[j]?=Z c.H.bN[j]:=aae p9;have hF:=hs.F _ (aah p9);have Xh:∀h:j<Q (c.H.bN.map gh),(c.H.bN.map gh)[j]=[.str c.H.bN[j].1,cM c.H.bN[j].2]:=λh=>by simp[gh]
 have asG:j<Q (c.H.bN.map gh):=by simpa using p9
 have ayb:=Xh asG;clear Xh;generalize c.H.bN[j]=v,c.H.bN.map gh=RS at *;rw[W,Int.toNat_natCast,hg];simp only;have hzp:cU 4 (cM v.2)=Y:=wB;have oQ:bn (cM v.2)=Y:=iQ;have P:bf (cM v.2)=v.2.map Vd.aK:=tF;have UE:(cM v.2).aj=cM v.2:=l8;generalize cM v.2=PV at *;simp[-aE,-az,o6,fj,cN,iH,cZ,esh,hzs,Nh,asG,ayb,UE,vW,kK,E.rows,E.aU,B,J,W,p,aB,AV.aj,aA,ay];refine bM Wi.eq_1 (λi:Nat=>⟨[(2,.val (.ptr (Q pre+(Q r0+1)) 0 0 0)),(4,.fp 0 0),(16,.val PV),(17,.val (.int .i64 i))],[[.int .i64 5,.int .i64 e.n,.str e.nm,.str e.on,.int .i64 e.od,kv,.int .i64 e.a,.int .i64 e.ty.b,.int .i64 e.ty.r,.int .i64 e.ty.d,.int .i64 e.ref],[],[],[],[],[.int .i64 3,.int .i64 j,.int .i64 0]],
   pre++o::(r0++[.rows 0 11 [nt 5 0 e.nm [] 0 (.mu (Q pre+(Q r0+1+1)) 0) e.a T0 0],.rows 0 11 [[.int .i64 y.k,.int .i64 y.n,.str y.nm,.str y.on,.int .i64 y.od,bL y.aP,.int .i64 y.a,.int .i64 3,.int .i64 j,.int .i64 0,.int .i64 y.ref]]])⟩)
  (λi=>i<=Q v.2/\jA e.nm 0 v.2=jA e.nm i (v.2.drop i)) (λi=>Q v.2-i) 0 (by simp) ⟨by simp,by simp⟩ ?_
 rintro i ⟨hi,hp⟩ ih;by_cases L:i<Q v.2;have hwi:=wk i (by omega);rw[Db L]at hp;by_cases q:v.2[i].nm=e.nm;rw[af q]at hp;rw[hp];simp[-aE,-az,cN,cZ,hzp,oQ,P,UE,L,q,Vd.aK,aB,AV.aj,aA,ay];exact qF;rw[U q]at hp;simp[-aE,-az,cZ,hzp,oQ,P,UE,L,q,hwi,Vd.aK,AV.aj,aA,ay];exact ih (i+1) ⟨by omega,hp⟩ (by omega);have dQ:i=Q v.2:=by omega
 have eC:jA e.nm 0 v.2=K:=by rw[hp,dQ,aaF];rfl
 rw[eC];simp[-aE,-az,oQ,P,L];exact kS;rw[U (λh=>J h.2)];simp[-aE,-az,o6,fj,cN,iH,vW,kK,E.rows,E.aU,B,J,p,aB,AV.aj];exact kS;rw[U (λh=>B h.1)];simp[-aE,-az,o6,fj,cN,iH,vW,kK,E.rows,E.aU,B,p,aB,AV.aj];exact kS;have h7:e.k=7:=by
  have:(0:Int)<e.k:=by
   apply Classical.byContradiction;intro hc;unfold iG at D;rw[ah,U h2,ah,ah]at D;simp[h6]at D;omega
  omega
 rw[h7];have M:nN c.H c.V 7 e.nm e.on e.od s=sq c.H e.nm s:=rfl;rw[M];obtain⟨v',O,e1,e2⟩:=ecl (Q (pre++c.bX::(r0++.rows 0 11 [nt 7 0 [] [] 0 (vW (Q pre+(Q r0+1+1)) s) e.a T0 0]::kK s))) 7 0 [] [] 0 e.a 0 T0;refine⟨v',O,?_,e2⟩;obtain⟨b,l,rfl,rfl,_⟩:=e2;simp only[aaK,List.length_append,h7]at e1;have hkc:(vW (Q pre+(Q r0+1+1)) s).cT=Y:=by unfold vW;split<;>rfl
 generalize c.bX=o,vW (Q pre+(Q r0+1+1)) s=kw,kK s=g at *;refine aG (sf:=o6) rfl rfl rfl ?_;simp[-aE,-az,o6,e1,p,To,AV.aj]
end R9
namespace R9
open Ax Go aM V7 jb jn K9
variable {pre:aO}
def OkX(pre:aO)(c:CK)(e:E):Prop:=match yU c.H c.V e with
 |.ok y=>∀g r,(bh S).call 0 g 152 [.ptr (Q pre) 0 0 0,.agg e.aK] (pre++c.bX::r)=Z (.agg y.aK,pre++c.bX::r)|.error a=>∀g r,(bh S).call 0 g 152 [.ptr (Q pre) 0 0 0,.agg e.aK] (pre++c.bX::r)=Z (.agg E0.aK,pre++(c.fail a).bX::r)
def OkW(pre:aO)(c:CK)(e:E):Prop:=match R6 c e with
 |.ok y=>∀g r,(bh S).call 0 g 153 [.ptr (Q pre) 0 0 0,.agg e.aK] (pre++c.bX::r)=Z (.agg y.aK,pre++c.bX::r)|.error a=>∃y:E,∀g r,(bh S).call 0 g 153 [.ptr (Q pre) 0 0 0,.agg e.aK] (pre++c.bX::r)=Z (.agg y.aK,pre++(c.fail a).bX::r)
theorem Pm:E0.aK=[.int .i64 0,.int .i64 0,.str [],.str [],.int .i64 0,.aF,.int .i64 0,.int .i64 0,.int .i64 0,.int .i64 0,.int .i64 0]:=by simp[E0,E.aK,E.rows]
theorem asH{H v e y}(h:yU H v e=.ok y):y.a=e.a:=by
 obtain⟨g,t,r,_,_,_,rfl⟩:=qU h
 rfl
theorem Sx(c e)(x:c.fe=0)(h:OkX pre c e):OkW pre c e:=by
 unfold OkX at h;unfold OkW R6;have m:=λg r=>jj (pre:=pre) g c r;rw[cH x]at m;have n:bn (bL e.aP)=Y:=cu;have t:(bL e.aP).aj=bL e.aP:=ck;cases l:yU c.H c.V e with
 |error a=>
  rw[l]at h;simp only at h ⊢;refine⟨E0,λg r=>?_⟩;have G:=vR (c:=c) (a:=a);have s:=λg r=>jj (pre:=pre) g (c.fail a) r;rw[eX G]at s;rw[Pm]at h ⊢;rw[E.aU e]at h ⊢;generalize (c.fail a).bX=O,c.bX=o,bL e.aP=p at *;refine aG (sf:=Ul) rfl rfl rfl ?_;simp[-aE,-az,Ul,h,s,n,t,aB,AV.aj]
 |ok y=>
  rw[l]at h;simp only at h ⊢;have w:=asH l;have j:bn (bL y.aP)=Y:=cu;have k:(bL y.aP).aj=bL y.aP:=ck;by_cases q:y.ty=T0;rw[af q];refine⟨y,λg r=>?_⟩;have v:=λg r=>mC (pre:=pre) g c e.a r;rw[show c.fail y.a=c.fail e.a by rw[w]];rw[E.aU e]at h ⊢;rw[E.aU y]at h ⊢;generalize (c.fail e.a).bX=O,c.bX=o,bL e.aP=p,bL y.aP=z at *;refine aG (sf:=Ul) rfl rfl rfl ?_;simp[-aE,-az,Ul,h,m,q,v,n,t,j,k,aB,AV.aj];rw[U q];intro g r;rw[E.aU e]at h ⊢;rw[E.aU y]at h ⊢;generalize c.bX=o,bL e.aP=p,bL y.aP=z at *;refine aG (sf:=Ul) rfl rfl rfl ?_;simp[-aE,-az,Ul,h,m,d0,q,n,t,j,k,aB,AV.aj]
theorem FQ{n k o}{r0 g:aO}{C v B}(h:Q v.cells=n)(H:AV.bG v.cells=Y)(l:k+Q v.cells<=Q C):
  bD 0 (Q pre+(Q r0+1)) (.store n) [.val (.ptr (Q pre+(Q r0+1)) 0 0 k),.val v] (pre++o::(r0++.rows 0 11 [C]::g)) B=Z (.none,pre++o::(r0++.rows 0 11 [aB C k v.cells]::g),B):=by
 rw[az,af ⟨h,H⟩];simp[gT,bw,l]
theorem Xi{l n j k w o x}{r0 g:aO}{rows h v B}(r:rows[j]?=Z h)(H:Q v.cells=n)(m:AV.bG v.cells=Y)(p:k+Q v.cells<=Q h)(q:AV.aD v.cells=Y):
  bD 0 l (.store n) [.val (.ptr (Q pre+(Q r0+1+1)) w j k),.val v] (pre++o::(r0++x::.rows w 11 rows::g)) B=Z (.none,pre++o::(r0++x::.rows w 11 (rows.set j (aB h k v.cells))::g),B):=by
 rw[az,af ⟨H,m⟩];simp[gT,bw,p,q,r]
def Cn:List AV:=[.int .i64 0,.int .i64 0,.str [],.str [],.int .i64 0,.aF,.int .i64 0,.int .i64 0,.int .i64 0,.int .i64 0,.int .i64 0]
theorem Zs(c)(e:E)(hf:c.fe=0)(hn:e.aP.length<1000000000)(hl:∀x∈e.aP,OkX pre c x)(_lim:Nat)(r0:aO){rs Q kk}(F t)(uy:t=bL e.aP)(U)(iF:U=[.int .i64 e.k,.int .i64 e.n,.str e.nm,.str e.on,.int .i64 e.od,t,.int .i64 e.a,.int .i64 e.ty.b,.int .i64 e.ty.r,.int .i64 e.ty.d,.int .i64 e.ref])(Kf:∀p,sK c.H c.V e.aP=.ok p->W S 0 (pre.length+(r0.length+1)) rs Q kk .normal ⟨[(0,.val (.ptr pre.length 0 0 0)),(3,.fp 0 0),(4,.fp 1 0),(6,.val (.ptr (pre.length+(r0.length+1)) 0 0 0))],[U,F],pre++c.bX::(r0++.rows 0 11 [nt e.k 0 [] [] 0 (vW (pre.length+(r0.length+1+1)) p) e.a T0 0]::kK p)⟩)(eC:∀a m g,sK c.H c.V e.aP=.error a->W S 0 (pre.length+(r0.length+1)) rs Q kk .normal ⟨[(0,.val (.ptr pre.length 0 0 0)),(3,.fp 0 0),(4,.fp 1 0),(6,.val (.ptr (pre.length+(r0.length+1)) 0 0 0))],[U,F],pre++(c.fail a).bX::(r0++m::g)⟩):
  W S 0 (pre.length+(r0.length+1)) rs Q (.code (.loop vK)::.lz 0::kk) .normal ⟨[(0,.val (.ptr pre.length 0 0 0)),(3,.fp 0 0),(4,.fp 1 0),(6,.val (.ptr (pre.length+(r0.length+1)) 0 0 0)),(7,.val (.int .i64 0))],[U,F],pre++c.bX::(r0++[.rows 0 11 [nt e.k 0 [] [] 0 .aF e.a T0 0]])⟩:=by
 subst iF;have hz:cU 11 t=Y:=by rw[uy];exact ox
 have P:bn t=Y:=by rw[uy];exact cu
 have I:t.aj=t:=by rw[uy];exact ck
 have G:bf t=E.rows e.aP:=by rw[uy];exact br
 have qm:=λC r=>jj (pre:=pre) C c r;rw[cH hf]at qm;refine bM vK.eq_1 (λx:Nat×List E×Option (Int×iW×aO)=>⟨[(0,.val (.ptr pre.length 0 0 0)),(3,.fp 0 0),(4,.fp 1 0),(6,.val (.ptr (pre.length+(r0.length+1)) 0 0 0)),(7,.val (.int .i64 x.1))],[[.int .i64 e.k,.int .i64 e.n,.str e.nm,.str e.on,.int .i64 e.od,t,.int .i64 e.a,.int .i64 e.ty.b,.int .i64 e.ty.r,.int .i64 e.ty.d,.int .i64 e.ref],F],
   match x.2.2 with
   |none=>pre++c.bX::(r0++.rows 0 11 [nt e.k 0 [] [] 0 (vW (pre.length+(r0.length+1+1)) x.2.1) e.a T0 0]::kK x.2.1)|some (a,m,g)=>pre++(c.fail a).bX::(r0++m::g)⟩)
  (λx=>x.1<=e.aP.length/\match x.2.2 with
   |none=>x.2.1.length=x.1/\G6 x.2.1 (sK c.H c.V (e.aP.drop x.1))=sK c.H c.V e.aP|some (a,_,_)=>sK c.H c.V e.aP=.error a) (λx=>e.aP.length-x.1) (0,[],K) rfl ⟨by simp,rfl,by simp[G6];split<;>rename_i h<;>exact h.symm⟩ ?_
 rintro⟨j,p,q⟩ ⟨hj,N⟩ ih;simp only at hj N ih;cases q with
 |some q=>
  obtain⟨a,m,g⟩:=q;simp only at N ⊢;have Gt:=vR (c:=c) (a:=a);have yR:=λC r=>jj (pre:=pre) C (c.fail a) r;rw[eX Gt]at yR;have UP:=eC a m g N;generalize (c.fail a).bX=o2 at *;by_cases B:j<e.aP.length;simp[-aE,-az,P,I,G,B,yR];exact UP;simp[-aE,-az,P,I,G,B];exact UP
 |none=>
  simp only at N ⊢;obtain⟨hy,D⟩:=N;by_cases B:j<e.aP.length;have hw:=wk j (by omega);have v:=Sx (pre:=pre) c e.aP[j] hf (hl _ (aah B));unfold OkW at v;rw[R7 B]at D;have gE:=Nd B;have DI:=λL=>Ch B L;have mY:j<(E.rows e.aP).length:=by simpa using B
  have FU:=DI mY;clear DI;have region:∀(b:aW) (hb:b=vK) (d:iW) (y:E),(∀C r,(bh S).call 0 C 153 [.ptr pre.length 0 0 0,.agg e.aP[j].aK] (pre++c.bX::r)=Z (.agg y.aK,pre++d::r))->
    W S 0 (pre.length+(r0.length+1)) rs Q (.code (.loop vK)::.lz 0::kk) .normal ⟨[(0,.val (.ptr pre.length 0 0 0)),(3,.fp 0 0),(4,.fp 1 0),(6,.val (.ptr (pre.length+(r0.length+1)) 0 0 0)),(7,.val (.int .i64 ((j+1:Nat):Int)))],[[.int .i64 e.k,.int .i64 e.n,.str e.nm,.str e.on,.int .i64 e.od,t,.int .i64 e.a,.int .i64 e.ty.b,.int .i64 e.ty.r,.int .i64 e.ty.d,.int .i64 e.ref],F],
     pre++d::(r0++.rows 0 11 [nt e.k 0 [] [] 0 (vW (pre.length+(r0.length+1+1)) (p++[y])) e.a T0 0]::kK (p++[y]))⟩->
    W S 0 (pre.length+(r0.length+1)) rs Q (.code b::.zf vK::.lz 0::kk) .normal ⟨[(0,.val (.ptr pre.length 0 0 0)),(3,.fp 0 0),(4,.fp 1 0),(6,.val (.ptr (pre.length+(r0.length+1)) 0 0 0)),(7,.val (.int .i64 j))],[[.int .i64 e.k,.int .i64 e.n,.str e.nm,.str e.on,.int .i64 e.od,t,.int .i64 e.a,.int .i64 e.ty.b,.int .i64 e.ty.r,.int .i64 e.ty.d,.int .i64 e.ref],F],
     pre++c.bX::(r0++.rows 0 11 [nt e.k 0 [] [] 0 (vW (pre.length+(r0.length+1+1)) p) e.a T0 0]::kK p)⟩:=by
   intro b hb d y fN T;rw[vK.eq_1]at hb;subst hb;rw[E.aU e.aP[j]]at fN gE FU;have O:bn (bL y.aP)=Y:=cu;have hyw:(bL y.aP).aj=bL y.aP:=ck;rw[E.aU y]at fN;generalize e.aP[j]=x,c.bX=o at *;clear ih eC Kf hl v;cases p with
   |nil=>
    simp only[vW,kK,List.isEmpty_nil,bz];simp[-aE,-az,P,I,G,B,qm];rw[iu];have hwl:IntKind.i64.wrap (0:Int)=0:=(by decide);simp[-aE,-az,cY,fj,FQ,Xi,O,cy,dj,I,G,hz,B,FU,cZ,fN,aB,AV.aj];refine⟨_,_,⟨rfl,rfl⟩,?_⟩;simp[-aE,-az,fh,cA,xSt,fj,FQ,bP,hw,aB,AV.aj,kz.de,AV.de];simp only[List.nil_append,vW,kK,E.rows,E.aU y,akA,aai,bC]at T;exact T
   |cons J l=>
    have M:W S 0 (pre.length+(r0.length+1)) rs Q (.code (.loop vK)::.lz 0::kk) .normal ⟨[(0,.val (.ptr pre.length 0 0 0)),(3,.fp 0 0),(4,.fp 1 0),(6,.val (.ptr (pre.length+(r0.length+1)) 0 0 0)),(7,.val (.int .i64 ((j+1:Nat):Int)))],[[.int .i64 e.k,.int .i64 e.n,.str e.nm,.str e.on,.int .i64 e.od,t,.int .i64 e.a,.int .i64 e.ty.b,.int .i64 e.ty.r,.int .i64 e.ty.d,.int .i64 e.ref],F],
     pre++d::(r0++.rows 0 11 [nt e.k 0 [] [] 0 (.mu (pre.length+(r0.length+1+1)) (l.length+1)) e.a T0 0]::[.rows (l.length+1) 11 (E.rows (J::l)++[y.aK])])⟩:=by
     have h1:vW (pre.length+(r0.length+1+1)) (J::l++[y])=.mu (pre.length+(r0.length+1+1)) (l.length+1):=(by simp[vW]);have L:kK (J::l++[y])=[.rows (l.length+1) 11 (E.rows (J::l)++[y.aK])]:=(by simp[kK,jI]);rw[h1,L]at T;exact T
    clear T;have s:(E.rows (J::l)).length=l.length+1:=(by simp);simp only[vW,kK,akA,aai,bC,aaK,Nat.add_sub_cancel];rw[E.aU y]at M;simp only[aaK]at hy;generalize E.rows (J::l)=R at *;have tV:∀(C:Nat) (o m:iW) (new:List AV) (bx:jM),new.length=11->AV.aD new=Y->bD 0 C (.j8 11 120) [.val (.mu (pre.length+(r0.length+1+1)) l.length),.val (.eE 11 [new])] (pre++o::(r0++[m,.rows l.length 11 R])) bx=Z (.val (.mu (pre.length+(r0.length+1+1)) (l.length+1)),pre++o::(r0++[m,.rows (l.length+1) 11 (R++[new])]),bx):=λC o m new bx h1 L=>by
     simp[bD,uN,dO,fO,cy,h1,L,s,dj];omega
    have i1:(0:Int)<=(l.length:Int)+1:=(by omega);have i2:(l.length:Int)<(l.length:Int)+1:=(by omega);have g1:∀z:List AV,(R++[z])[l.length+1]?=Z z:=λz=>by rw[<-s];simp
    have g2:∀z w:List AV,(R++[z]).set (l.length+1) w=R++[w]:=λz w=>by rw[<-s];simp
    simp[-aE,-az,P,I,G,B,qm];rw[iu];simp[-aE,-az,cY,fj,FQ,Xi,i1,i2,g2,O,tV,s,I,G,hz,B,FU,cZ,fN,aB,AV.aj];refine⟨_,_,⟨rfl,rfl⟩,?_⟩;simp[-aE,-az,fh,cA,xSt,fj,FQ,i1,i2,s,bP,hw,aB,AV.aj,kz.de,AV.de];exact M
  cases hx:R6 c e.aP[j] with
  |error a=>
   rw[hx]at D v;simp only at D v;obtain⟨y,v⟩:=v;exact region _ rfl _ y v (ih (j+1,p++[y],Z (a,_,_)) ⟨by simp only;omega,D.symm⟩ (by simp only;omega))
  |ok y=>
   rw[hx]at D v;simp only at D v;exact region _ rfl _ y v (ih (j+1,p++[y],K) ⟨by simp only;omega,by simp[hy],D⟩ (by simp only;omega))
  have dQ:j=e.aP.length:=by omega
  have hR:sK c.H c.V e.aP=.ok p:=by
   rw[<-D,dQ,aaF];simp[sK,G6]
  have adZ:=Kf p hR;generalize c.bX=o at *;simp[-aE,-az,P,I,G,B];exact adZ
end R9
namespace R9
open Ax Go aM V7 jb jn K9
variable {pre:aO}
theorem ang(H v e):yU H v e=if iG e.k e.n (Q e.aP) then
  match sK H v e.aP with
  |.error x=>.error x|.ok g=>match nN H v e.k e.nm e.on e.od g with
   |none=>.error e.a|some (t,r)=>.ok (.mk e.k (wZ e.k e.n) (w6 e.k e.nm) (w7 e.k e.on) (w8 e.k e.od) g e.a t r)
  else .error e.a:=by
 have ⟨k,n,N,O,o,h,a,T,ref⟩:=e
 (conv=>lhs;unfold yU)<;>rfl
def j7:aW->aW
 |.seq _ b=>b|x=>x
def AP:aW:=j7 (j7 (j7 (j7 (j7 uV.body))))
theorem ah2(_e:E)(a)(c:CK)(r:aO)(o x)(g:aO)(h):
  W S 0 (Q pre+(Q r+1)) uV.results (IA uV.results .nC (pre++o::r) (.agg E0.aK,pre++(c.fail a).bX::r)) [.code AP] .normal ⟨[(0,.val (.ptr (Q pre) 0 0 0)),(3,.fp 0 0),(4,.fp 1 0),(6,.val (.ptr (Q pre+(Q r+1)) 0 0 0))],[h,Cn],pre++(c.fail a).bX::(r++x::g)⟩:=by
 have G:=vR (c:=c) (a:=a);have s:=λj r=>jj (pre:=pre) j (c.fail a) r;rw[eX G]at *;rw[Pm];simp[-aE,-az,AP,j7,uV,s,Cn,aB,AV.aj]
theorem UQ{C v st}(h:bn v=Y):nH C v st=Z (v.aj,st):=by
 cases v<;>simp_all [bn,nH,AV.aH,AV.cT]
theorem Zt{C}{y:E}{st}:mg C y.aK st=Z (y.aK,st):=by
 have h:bn (bL y.aP)=Y:=cu;have H:(bL y.aP).aj=bL y.aP:=ck;have l:nH C (bL y.aP) st=Z (bL y.aP,st):=by rw[UQ h,H]
 have F:∀n,nH C (.int .i64 n) st=Z (.int .i64 n,st):=λn=>rfl;have g:∀n,nH C (.str n) st=Z (.str n,st):=λn=>rfl;simp_all [E.aU,mg]
theorem Lh{C st}:∀g:List E,kI C (E.rows g) st=Z (E.rows g,st)
 |[]=>rfl|y::g=>by simp[E.rows,kI,Zt,Lh]
theorem ad0{C v}{o X:iW}{r:aO}{ys}(g:C=0)(h:ys≠[]):jN C (.mu (Q pre+(Q r+1+1)) v) (pre++o::(r++[X,.rows v 11 (E.rows ys)]))=Z (.eE 11 (E.rows ys),pre++o::(r++[X,.rows (v+1) 11 []])):=by
 have H:(E.rows ys).isEmpty=false:=by cases ys with
  |nil=>grind|cons y l=>rfl
 simp_all [jN,Lh]
theorem Zu(j)(c:CK)(r0:aO)(e:E)(g)(l:iG e.k e.n (Q g)=Y)(t:12<=e.k):
  ∃v s,(bh S).call 0 j 167 [.ptr (Q pre) 0 0 0,.ptr (Q pre+(Q r0+1)) 0 0 0] (pre++c.bX::(r0++.rows 0 11 [nt e.k 0 [] [] 0 (vW (Q pre+(Q r0+1+1)) g) e.a T0 0]::kK g))=Z (v,s)/\
   Pj pre c.bX r0 (kK g) (nN c.H c.V e.k e.nm e.on e.od g) (nt e.k (wZ e.k e.n) (w6 e.k e.nm) (w7 e.k e.on) (w8 e.k e.od) (vW (Q pre+(Q r0+1+1)) g) e.a) v s:=by
 rw[Zq t];have o:wZ e.k e.n=0:=ah;have p:w6 e.k e.nm=[]:=ah;have z:w7 e.k e.on=[]:=ah;have q:w8 e.k e.od=0:=ah;rw[o,p,z,q];by_cases h:e.k=12\/e.k=13;obtain⟨y,rfl⟩:∃y,g=[y]:=by
  have m:Q g=1:=by grind [iG]
  match g,m with
  |[y],_=>grind
 rw[af h];exact⟨_,_,Zo j c.bX r0 e.k 0 [] [] 0 e.a 0 T0 y h,FO⟩;have B:14<=e.k:=by omega
 obtain⟨x,y,rfl⟩:∃x y,g=[x,y]:=by
  have m:Q g=2:=by
   unfold iG at l
   grind
  match g,m with
  |[x,y],_=>grind
 rw[U h];exact⟨_,_,Zp j c.bX r0 e.k 0 [] [] 0 e.a 0 T0 x y B,FO⟩
theorem Ob(o k)(r:aO)(ys kk n N g O a z t j)(_hrow:Q j=11):
  W S 0 (Q pre+(Q r+1)) [qg.box 4 1 11 Y] (IA [qg.box 4 1 11 Y] .nC (pre++k::r) (.agg (nt kk n N g O (bL ys) a t z),pre++o::r))
  [.code (.rN 6 5),.code (.region [{ dst:=Z 94,op:=.load Y 11 false,args:=[.tmp 6 Y],guard:=K },{ dst:=K,op:=.yz 1 11,args:=[.tmp 4 false,.tmp 94 Y],guard:=K }] K []),.code .ret] .normal
  ⟨[(4,.fp 1 0),(6,.val (.ptr (Q pre+(Q r+1)) 0 0 0))],[j,Cn],pre++o::(r++.rows 0 11 [nt kk n N g O (vW (Q pre+(Q r+1+1)) ys) a t z]::kK ys)⟩:=by
 rw[Ep];cases ys with
 |nil=>
  refine⟨Q pre+(Q r+1),0,0,0,.aF,.aF,pre++o::(r++[.rows 0 11 [nt kk n N g O .aF a t z]]),pre++o::(r++[.rows 0 11 [nt kk n N g O .aF a t z]]),rfl,?_,rfl,?_,?_⟩;simp[gP,vW,kK,cut];simp_all;have B:bL []=.aF:=rfl;simp_all [Cn]
 |cons y l=>
  have B:bL (y::l)=.eE 11 _:=rfl;have h:=ad0 (pre:=pre) (v:=Q (y::l)-1) (o:=o) (X:=.rows 0 11 [nt kk n N g O (.mu (Q pre+(Q r+1+1)) (Q (y::l)-1)) a t z]) (r:=r) (ys:=y::l) rfl (by simp);refine⟨Q pre+(Q r+1),0,0,0,.mu _ _,.eE 11 _,_,pre++o::(r++[.rows 0 11 [nt kk n N g O (.eE 11 (E.rows (y::l))) a t z],.rows (Q (y::l)-1+1) 11 []]),rfl,?_,h,?_,?_⟩;simp[gP,vW,kK,cut];simp_all;rw[B];generalize E.rows _=R at *;simp[-aE,-az,fj,Cn,aB,AV.aj]
theorem ah3(c)(e:E)(r:aO)(F g)(J:c.fe=0)(P:FA c)(L:Q g<1000000000)(C:iG e.k e.n (Q g)=Y)(p:Q c.H.rs=Q c.H.bN)(R:∀x∈g,WT (Q c.H.rs) x.ty):
  W S 0 (Q pre+(Q r+1)) uV.results (IA uV.results .nC (pre++F::r) (match nN c.H c.V e.k e.nm e.on e.od g with
   |none=>(.agg E0.aK,pre++(c.fail e.a).bX::r)
   |some (t,z)=>(.agg (E.mk e.k (wZ e.k e.n) (w6 e.k e.nm) (w7 e.k e.on) (w8 e.k e.od) g e.a t z).aK,pre++c.bX::r))) [.code AP] .normal
   ⟨[(0,.val (.ptr (Q pre) 0 0 0)),(3,.fp 0 0),(4,.fp 1 0),(6,.val (.ptr (Q pre+(Q r+1)) 0 0 0))],[[.int .i64 e.k,.int .i64 e.n,.str e.nm,.str e.on,.int .i64 e.od,bL e.aP,.int .i64 e.a,.int .i64 e.ty.b,.int .i64 e.ty.r,.int .i64 e.ty.d,.int .i64 e.ref],Cn],
    pre++c.bX::(r++.rows 0 11 [nt e.k 0 [] [] 0 (vW (Q pre+(Q r+1+1)) g) e.a T0 0]::kK g)⟩:=by
 have m:=λl r=>jj (pre:=pre) l c r;rw[cH J]at *;have B:=λl r=>mC (pre:=pre) l c e.a r;have T:(bL e.aP).aj=bL e.aP:=ck;have done:∀v s,Pj pre c.bX r (kK g) (nN c.H c.V e.k e.nm e.on e.od g) (nt e.k (wZ e.k e.n) (w6 e.k e.nm) (w7 e.k e.on) (w8 e.k e.od) (vW (Q pre+(Q r+1+1)) g) e.a) v s->
   (12<=e.k->(bh S).call 0 (Q pre+(Q r+1)) 167 [.ptr (Q pre) 0 0 0,.ptr (Q pre+(Q r+1)) 0 0 0] (pre++c.bX::(r++.rows 0 11 [nt e.k 0 [] [] 0 (vW (Q pre+(Q r+1+1)) g) e.a T0 0]::kK g))=Z (v,s))->
   (¬12<=e.k->(bh S).call 0 (Q pre+(Q r+1)) 168 [.ptr (Q pre) 0 0 0,.agg e.aK,.ptr (Q pre+(Q r+1)) 0 0 0] (pre++c.bX::(r++.rows 0 11 [nt e.k 0 [] [] 0 (vW (Q pre+(Q r+1+1)) g) e.a T0 0]::kK g))=Z (v,s))->
   W S 0 (Q pre+(Q r+1)) uV.results (IA uV.results .nC (pre++F::r) (match nN c.H c.V e.k e.nm e.on e.od g with
    |none=>(.agg E0.aK,pre++(c.fail e.a).bX::r)
    |some (t,z)=>(.agg (E.mk e.k (wZ e.k e.n) (w6 e.k e.nm) (w7 e.k e.on) (w8 e.k e.od) g e.a t z).aK,pre++c.bX::r))) [.code AP] .normal
    ⟨[(0,.val (.ptr (Q pre) 0 0 0)),(3,.fp 0 0),(4,.fp 1 0),(6,.val (.ptr (Q pre+(Q r+1)) 0 0 0))],[[.int .i64 e.k,.int .i64 e.n,.str e.nm,.str e.on,.int .i64 e.od,bL e.aP,.int .i64 e.a,.int .i64 e.ty.b,.int .i64 e.ty.r,.int .i64 e.ty.d,.int .i64 e.ref],Cn],
     pre++c.bX::(r++.rows 0 11 [nt e.k 0 [] [] 0 (vW (Q pre+(Q r+1+1)) g) e.a T0 0]::kK g)⟩:=by
  rintro v s ⟨b,y,rfl,rfl,j⟩ c1 c2;rw[E.aU]at c2;generalize bL e.aP=U at *;cases D:nN c.H c.V e.k e.nm e.on e.od g with
  |none=>
   rw[D]at j;simp only at *;subst j;rw[Pm];generalize (c.fail e.a).bX=o2,c.bX=o at *;by_cases h:12<=e.k;have c1:=c1 h;simp[-aE,-az,AP,j7,uV,m,c1,h,B,Cn,aB,AV.aj];have c2:=c2 h;simp[-aE,-az,AP,j7,uV,m,c2,h,B,Cn,T,aB,AV.aj]
  |some x=>
   have ⟨t,z⟩:=x;rw[D]at j;obtain⟨rfl,rfl⟩:=j;simp;have M:∀k n N w O q a t z,(E.mk k n N w O q a t z).aK=[.int .i64 k,.int .i64 n,.str N,.str w,.int .i64 O,bL q,.int .i64 a,.int .i64 t.b,.int .i64 t.r,.int .i64 t.d,.int .i64 z]:=λk n N w O q a t z=>E.aU _;rw[M];generalize c.bX=o at *;by_cases h:12<=e.k;have c1:=c1 h;simp[-aE,-az,AP,j7,uV,m,c1,h,AV.aj];simp_all [Ob];have c2:=c2 h;simp[-aE,-az,AP,j7,uV,m,c2,h,T,AV.aj];simp_all [Ob]
 by_cases h:12<=e.k;have ⟨v,s,G,I⟩:=Zu (pre:=pre) (Q pre+(Q r+1)) c r e g C h
 grind
 have ⟨v,s,G,I⟩:=K1 (pre:=pre) (Q pre+(Q r+1)) c r e g P L C (by omega) p R
 grind
theorem nO(c)(R:c.fe=0)(N:G7 c)(e):E.sz e<1000000000->OkX pre c e:=by
 induction e using E.C6 with
 |_ e ih=>
  intro fM;have Af:=E.sx e;have dQ:=E.mq e.aP;have hl:=λx hx=>ih x hx (by have:=E.sw hx;omega);have M:=λwl p st=>ym wl p e.k st;have Nb:=UN e.k e.n e.aP.length;have L:=λp r=>mC (pre:=pre) p c e.a r;have qm:=λp r=>jj (pre:=pre) p c r;rw[cH R]at *;unfold OkX;rw[ang];have U:bn (bL e.aP)=Y:=cu;have T:(bL e.aP).aj=bL e.aP:=ck;have I:bf (bL e.aP)=E.rows e.aP:=br;have J:(E.rows e.aP).length=e.aP.length:=by simp
  cases hk:iG e.k e.n e.aP.length with
  |false=>
   rw[hk]at Nb;simp;intro p r;rw[Pm,E.aU];generalize Im e.k=D,(c.fail e.a).bX=o2,c.bX=o,bL e.aP=kv,E.rows e.aP=RE at *;refine aG rfl rfl rfl ?_;by_cases q:D = -2;simp[-aE,-az,uV,M,q,L,U,aB,AV.aj];by_cases C:0<=D;by_cases G:(e.aP.length:Int)=D;have l:e.k=2/\e.n≠0/\e.n≠1:=(by grind);have m:=eq_true l.1;have w:=eq_false l.2.1;have O:=eq_false l.2.2;simp[-aE,-az,uV,M,q,C,G,m,w,O,L,U,T,I,J,aB,AV.aj];simp[-aE,-az,uV,M,q,C,G,L,U,T,I,J,aB,AV.aj];have l:e.k=2/\e.n≠0/\e.n≠1:=(by grind);have m:=eq_true l.1;have w:=eq_false l.2.1;have O:=eq_false l.2.2;simp[-aE,-az,uV,M,q,C,m,w,O,L,U,aB,AV.aj]
  |true=>
   rw[hk]at Nb;simp;have P:=N.H.rs;have B:∀(p:Nat) (r:aO) (v:AV) (st:aO),W S 0 (pre.length+(r.length+1)) uV.results (IA uV.results .nC (pre++c.bX::r) (v,st)) [.code (.loop vK),.lz 0,.code AP] .normal
     ⟨[(0,.val (.ptr pre.length 0 0 0)),(3,.fp 0 0),(4,.fp 1 0),(6,.val (.ptr (pre.length+(r.length+1)) 0 0 0)),(7,.val (.int .i64 0))],[[.int .i64 e.k,.int .i64 e.n,.str e.nm,.str e.on,.int .i64 e.od,bL e.aP,.int .i64 e.a,.int .i64 e.ty.b,.int .i64 e.ty.r,.int .i64 e.ty.d,.int .i64 e.ref],Cn],
      pre++c.bX::(r++[.rows 0 11 [nt e.k 0 [] [] 0 .aF e.a T0 0]])⟩->(bh S).call 0 p 152 [.ptr pre.length 0 0 0,.agg e.aK] (pre++c.bX::r)=Z (v,st):=by
    intro p r v st go;rw[E.aU];generalize Im e.k=D,c.bX=o,bL e.aP=kv,E.rows e.aP=RE at *;refine aG rfl rfl rfl ?_;have F:(e.k≠2)\/(e.k=2/\e.n=0)\/(e.k=2/\e.n≠0/\e.n=1):=by
     grind
    have q:D≠-2:=λh=>by grind
    by_cases C:0<=D;have G:e.aP.length=D:=by
     grind
    rcases F with l|⟨l,m⟩|⟨l,m,w⟩;simp[-aE,-az,uV,M,q,C,G,l,U,T,I,J,cN,aB,AV.aj];exact go;have l:=eq_true l;have m:=eq_true m;simp[-aE,-az,uV,M,q,C,G,l,m,U,T,I,J,cN,aB,AV.aj];exact go;have l:=eq_true l;have w:=eq_true w;simp[-aE,-az,uV,M,q,C,G,l,m,w,U,T,I,J,cN,aB,AV.aj];exact go;rcases F with l|⟨l,m⟩|⟨l,m,w⟩;simp[-aE,-az,uV,M,q,C,l,U,cN,aB,AV.aj];exact go;have l:=eq_true l;have m:=eq_true m;simp[-aE,-az,uV,M,q,C,l,m,U,cN,aB,AV.aj];exact go;have l:=eq_true l;have w:=eq_true w;simp[-aE,-az,uV,M,q,C,l,m,w,U,cN,aB,AV.aj];exact go
   have loop:=λr {rs:List qg} {Q:Ex->St->Prop} {kk:List B1}=>Zs c e R (by omega) hl 0 r (rs:=rs) (Q:=Q) (kk:=kk) Cn _ rfl _ rfl;cases hv:sK c.H c.V e.aP with
   |error a=>
    simp;intro p r;refine B p r _ _ (loop r (λys h=>by grind) λa' j g h=>?_);rw[hv]at h;cases h;exact ah2 e a c r c.bX j g _
   |ok ks=>
    simp;have hlen:=oD hv;have hwt:=jP hv λx hx y hy=>OO N.H N.V x y hy;have ht:=λr=>ah3 (pre:=pre) c e r c.bX ks R N.s (by omega) (by grind) P hwt;cases hT:nN c.H c.V e.k e.nm e.on e.od ks with
    |none=>
     simp;intro p r;refine B p r _ _ (loop r (λys h=>?_) λa' j g h=>by grind);simp_all
    |some x=>
     have ⟨t,z⟩:=x;simp;intro p r;refine B p r _ _ (loop r (λys h=>?_) λa' j g h=>by grind);simp_all
end R9
namespace R9
open Ax Go aM V7 jb jn K9
variable {pre:aO}
theorem ad1{ai}{c:CK}{bx}:bD 0 ai (.load false 1 Y) [.val (.ptr (Q pre) 0 0 11)] (pre++[c.bX]) bx=Z (.val (cw 4 (c.V.map Vd.aK)),pre++[c.Ze (cw 4 (c.V.map Vd.aK)).gK],bx):=by
 simp only[CK.bX,CK.Ze];generalize c.V.map Vd.aK=rows;cases rows with
 |nil=>simp[bD,cw,cut,gP,gT,bw,AV.gK,AV.aH,AV.aD,aB,bO]|cons a l=>simp[bD,cw,cut,gP,gT,bw,AV.gK,AV.aH,AV.aD,aB,bO]
theorem akg{ai}{c:CK}{w W bx}:bD 0 ai (.store 1) [.val (.ptr (Q pre) 0 0 11),.val (cw 4 (W.map Vd.aK))] (pre++[c.Ze w]) bx=Z (.none,pre++[({ c with V:=W }).bX],bx):=by
 simp[CK.bX,CK.Ze,bw,AV.aD,aB]
def II(pre:aO)(c:CK)(s:Sm):Prop:=match Br c.H c.sg.bY c.sg.res c.V s with
 |.ok (y,W)=>∀ai,(bh S).call 0 ai 134 [.ptr (Q pre) 0 0 0,.agg s.aK] (pre++[c.bX])=Z (.agg y.aK,pre++[(c.cG W).bX])|.error a=>∀ai,∃W g,O3 g/\(bh S).call 0 ai 134 [.ptr (Q pre) 0 0 0,.agg s.aK] (pre++[c.bX])=Z (.agg g,pre++[((c.cG W).fail a).bX])
def Tm(pre:aO)(c:CK)(l:List Sm):Prop:=match pe c.H c.sg.bY c.sg.res c.V l with
 |.ok (y,W)=>∀ai,(bh S).call 0 ai 88 [.ptr (Q pre) 0 0 0,cn l] (pre++[c.bX])=Z (cw 9 (Sm.rows y),pre++[(c.cG W).bX])|.error a=>∀ai,∃W v,bn v=Y/\(bh S).call 0 ai 88 [.ptr (Q pre) 0 0 0,cn l] (pre++[c.bX])=Z (v,pre++[((c.cG W).fail a).bX])
theorem Xj(c)(s:Sm)(hf:c.fe=0)(hn:Q s.es<1000000000)(h9:s.k≠9)(hl:∀x∈s.es,OkX pre c x)(t){rs g kk}(J L M N O T U P xr n D G)(iF:G=s.aK)(Kf:∀l,sK c.H c.V s.es=.ok l->W S 0 t rs g kk .normal ⟨[(0,.val (.ptr (Q pre) 0 0 0)),(3,.fp 0 0),(4,.fp 1 0),(5,.fp 2 0),(6,.fp 3 0),(7,.val (.bool O))],[G,J,[.int .i64 T,.str n,.str D,.int .i64 U,cw 11 (E.rows l),.aF,.aF,.int .i64 P,.int .i64 xr],L,M,N],pre++[c.bX]⟩)(eC:∀a v,bn v=Y->sK c.H c.V s.es=.error a->W S 0 t rs g kk .normal ⟨[(0,.val (.ptr (Q pre) 0 0 0)),(3,.fp 0 0),(4,.fp 1 0),(5,.fp 2 0),(6,.fp 3 0),(7,.val (.bool O))],[G,J,[.int .i64 T,.str n,.str D,.int .i64 U,v,.aF,.aF,.int .i64 P,.int .i64 xr],L,M,N],pre++[(c.fail a).bX]⟩):
  W S 0 t rs g (.code (.loop rV)::.lz 0::kk) .normal ⟨[(0,.val (.ptr (Q pre) 0 0 0)),(3,.fp 0 0),(4,.fp 1 0),(5,.fp 2 0),(6,.fp 3 0),(7,.val (.bool O)),(10,.val (.int .i64 0))],[G,J,[.int .i64 T,.str n,.str D,.int .i64 U,.aF,.aF,.aF,.int .i64 P,.int .i64 xr],L,M,N],pre++[c.bX]⟩:=by
 subst iF;rw[Sm.aU]at *;have hz:cU 11 (bL s.es)=Y:=ox;have z:bn (bL s.es)=Y:=cu;have C:(bL s.es).aj=bL s.es:=ck;have w:bf (bL s.es)=E.rows s.es:=br;have b1':bn (cn s.bd)=Y:=cW;have qm:=λt r=>jj (pre:=pre) t c r;rw[cH hf]at qm;have tV:∀(l:List E) (y:E),Q l<1000000000->wS 11 120 (cw 11 (E.rows l)) [y.aK]=Z (cw 11 (E.rows (l++[y]))):=λl y h=>by
  rw[iw (by simp[cy,E.aU]) (by simp[dj];omega)];simp[jI]
 generalize bL s.es=kv,cn s.bd=bv,cn s.el=lv at *;refine bM rV.eq_1 (λx:Nat×List E×Option Int=>⟨[(0,.val (.ptr (Q pre) 0 0 0)),(3,.fp 0 0),(4,.fp 1 0),(5,.fp 2 0),(6,.fp 3 0),(7,.val (.bool O)),(10,.val (.int .i64 x.1))],
   [[.int .i64 s.k,.str s.nm,.str s.on,.int .i64 s.od,kv,bv,lv,.int .i64 s.a,.int .i64 s.ref],J,[.int .i64 T,.str n,.str D,.int .i64 U,cw 11 (E.rows x.2.1),.aF,.aF,.int .i64 P,.int .i64 xr],L,M,N],
   match x.2.2 with
   |none=>pre++[c.bX]|some a=>pre++[(c.fail a).bX]⟩)
  (λx=>x.1<=Q s.es/\Q x.2.1=x.1/\match x.2.2 with
   |none=>G6 x.2.1 (sK c.H c.V (s.es.drop x.1))=sK c.H c.V s.es|some a=>sK c.H c.V s.es=.error a) (λx=>Q s.es-x.1) (0,[],K) rfl ⟨by simp,rfl,by simp[G6];split<;>rename_i h<;>exact h.symm⟩ ?_
 rintro⟨j,l,q⟩ ⟨hj,hy,m⟩ ih;simp only at hj m ih hy;cases q with
 |some a=>
  simp only at m ⊢;have Gt:=vR (c:=c) (a:=a);have yR:=λt r=>jj (pre:=pre) t (c.fail a) r;rw[eX Gt]at yR;have UP:=eC a (cw 11 (E.rows l)) ey m;generalize (c.fail a).bX=o2 at *;by_cases B:j<Q s.es;simp[-aE,-az,z,C,w,B,yR];exact UP;simp[-aE,-az,z,C,w,B];exact UP
 |none=>
  simp only at m ⊢;by_cases B:j<Q s.es;have hw:=wk j (by omega);have p:=Sx (pre:=pre) c s.es[j] hf (hl _ (aah B));unfold OkW at p;rw[R7 B]at m;have gE:=Nd B;have DI:=λh2=>Ch B h2;have mY:j<Q (E.rows s.es):=by simpa using B
  have F:=DI mY;clear DI;cases hx:R6 c s.es[j] with
  |error a=>
   rw[hx]at m p;simp only at m p;obtain⟨y,p⟩:=p;have ap:=tV l y (by omega);have I:=ih (j+1,l++[y],Z a) ⟨by simp only;omega,by simp[hy],m.symm⟩ (by simp only;omega);simp only at I;have m1:bn (cw 11 (E.rows (l++[y])))=Y:=ey;generalize cw 11 (E.rows (l++[y]))=R,(c.fail a).bX=o2,c.bX=o at *;rw[E.aU s.es[j]]at p gE F;rw[E.aU y]at p ap;generalize s.es[j]=x at *;simp[-aE,-az,cZ,z,C,w,hz,B,h9,hw,F,qm,p,ap,m1,aA,ay,aB,AV.aj];exact I
  |ok y=>
   rw[hx]at m p;simp only at m p;have ap:=tV l y (by omega);have I:=ih (j+1,l++[y],K) ⟨by simp only;omega,by simp[hy],m⟩ (by simp only;omega);simp only at I;have m1:bn (cw 11 (E.rows (l++[y])))=Y:=ey;generalize cw 11 (E.rows (l++[y]))=R,c.bX=o at *;rw[E.aU s.es[j]]at p gE F;rw[E.aU y]at p ap;generalize s.es[j]=x at *;simp[-aE,-az,cZ,z,C,w,hz,B,h9,hw,F,qm,p,ap,m1,aA,ay,aB,AV.aj];exact I
  have dQ:j=Q s.es:=by omega
  have hR:sK c.H c.V s.es=.ok l:=by
   rw[<-m,dQ,aaF];simp[sK,G6]
  have adZ:=Kf l hR;generalize c.bX=o at *;simp[-aE,-az,z,C,w,B];exact adZ
theorem ah4(c)(s:Sm)(e)(hf:c.fe=0)(h9:s.k=9)(oW:s.es=[e])(g:OkX pre c e)(j){rs q kk}(B z C N O T U P G n D m)(iF:m=s.aK)(Kf:∀y,yU c.H c.V e=.ok y->W S 0 j rs q kk .normal ⟨[(0,.val (.ptr (Q pre) 0 0 0)),(3,.fp 0 0),(4,.fp 1 0),(5,.fp 2 0),(6,.fp 3 0),(7,.val (.bool O))],[m,B,[.int .i64 T,.str n,.str D,.int .i64 U,cw 11 (E.rows [y]),.aF,.aF,.int .i64 P,.int .i64 G],z,C,N],pre++[c.bX]⟩)(eC:∀a v,bn v=Y->yU c.H c.V e=.error a->W S 0 j rs q kk .normal ⟨[(0,.val (.ptr (Q pre) 0 0 0)),(3,.fp 0 0),(4,.fp 1 0),(5,.fp 2 0),(6,.fp 3 0),(7,.val (.bool O))],[m,B,[.int .i64 T,.str n,.str D,.int .i64 U,v,.aF,.aF,.int .i64 P,.int .i64 G],z,C,N],pre++[(c.fail a).bX]⟩):
  W S 0 j rs q (.code (.loop rV)::.lz 0::kk) .normal ⟨[(0,.val (.ptr (Q pre) 0 0 0)),(3,.fp 0 0),(4,.fp 1 0),(5,.fp 2 0),(6,.fp 3 0),(7,.val (.bool O)),(10,.val (.int .i64 0))],[m,B,[.int .i64 T,.str n,.str D,.int .i64 U,.aF,.aF,.aF,.int .i64 P,.int .i64 G],z,C,N],pre++[c.bX]⟩:=by
 subst iF;rw[Sm.aU]at *;rw[oW]at *;have I:cU 11 (bL [e])=Y:=ox;have t:bn (bL [e])=Y:=cu;have w:(bL [e]).aj=bL [e]:=ck;have l:bf (bL [e])=[e.aK]:=br;have F:=λj r=>jj (pre:=pre) j c r;rw[cH hf]at F;have J:∀y:E,wS 11 120 .aF [y.aK]=Z (cw 11 (E.rows [y])):=λy=>by
  have:=iw (sz:=11) (bytes:=120) (r:=[]) (new:=[y.aK]) (by simp[cy,E.aU]) (by simp[dj]);exact this
 have hw:IntKind.i64.wrap (0+1:Int)=1:=by decide
 rw[h9]at *;generalize bL [e]=kv,cn s.bd=bv,cn s.el=lv at *;unfold OkX at g;rw[Aj rV.eq_1];cases p:yU c.H c.V e with
 |error a=>
  rw[p]at g;simp only at g;have UP:=λv h=>eC a v h p;have L:=vR (c:=c) (a:=a);have yR:=λj r=>jj (pre:=pre) j (c.fail a) r;rw[eX L]at yR;have ap:=J E0;have M:bn (cw 11 (E.rows [E0]))=Y:=ey;generalize cw 11 (E.rows [E0])=R,(c.fail a).bX=o2,c.bX=o at *;rw[E.aU e]at g l;rw[E.aU E0]at g ap;simp[-aE,-az,cZ,t,w,l,I,F,g,ap,M,aA,ay,aB,AV.aj];show W S 0 j rs q (.code (.loop rV)::.lz 0::kk) .normal _;rw[Aj rV.eq_1];simp[-aE,-az,t,w,l];exact UP _ M
 |ok y=>
  rw[p]at g;simp only at g;have x:=Kf y p;have ap:=J y;have M:bn (cw 11 (E.rows [y]))=Y:=ey;generalize cw 11 (E.rows [y])=R,c.bX=o at *;rw[E.aU e]at g l;rw[E.aU y]at g ap;simp[-aE,-az,cZ,t,w,l,I,F,g,ap,M,aA,ay,aB,AV.aj];show W S 0 j rs q (.code (.loop rV)::.lz 0::kk) .normal _;rw[Aj rV.eq_1];simp[-aE,-az,t,w,l];exact x
end R9
