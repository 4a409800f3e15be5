/-
  Joined.
-/
import Derived.Test.YtepmocimmmjinaaGreatDoorP06
import Derived.Test.YtepmocimmmjinaaGreatDoorP09
import Derived.OpenShut
import Derived.WideShapes
import Derived.ChangeShapes
import Derived.LaidLaws
import Derived.Lib.LaidU8
import Derived.Lib.LaidTab
set_option linter.unusedSimpArgs false
set_option linter.unusedVariables false
set_option maxRecDepth 100000
variable {a:Type} {b:Nat} {c:Go.TypeId}
namespace Go.Proofs.YtepmocimmmjinaaGreatDoor.Pw
open Go Go.Sv Go.Rails Go.Drv Go.Pw Go.ChangeShapes Go.WideShapes Go.Deep Go.RowKit Go.Proofs.Tryz
section
variable {H:Type} {enc:TypeId×Value->H} {w:World} {base:Nat} {spare:Nat->Bool} {held:Bool}
def Td (enc:TypeId×Value->H) (w:World) (base:Nat) (spare:Nat->Bool) (held:Bool) (t:TypeId) (cs:List Value):Prop:= ∃n y,DataW.trod enc prog w base spare held n t cs=some y
section
variable {t:TypeId} {cs:List Value}
theorem px {fs:Array Field} (a:prog.underlying t=some (.struct fs)) (h:Td enc w base spare held t cs):cs.length=prog.cellsOf t:=by
 obtain⟨n,y,h⟩:=h;obtain⟨_,_,_,_,b,_⟩:=DataW.trod_struct a h;exact b
theorem dx {fs:Array Field} (e:prog.underlying t=some (.struct fs)) (h:Td enc w base spare held t cs) (i:Nat) {o c:Nat} (g:fs[i]?.map (λf=>(f.type,f.offset))=some (b,o)) (j:prog.cellsOf b=c):Td enc w base spare held b ((cs.drop o).take c):=by
 obtain⟨n,y,h⟩:=h;obtain⟨xs,m,_,_,_,k,l⟩:=DataW.trod_struct e h;obtain⟨f,u,p⟩:=Option.map_eq_some_iff.1 g;obtain⟨rfl,rfl⟩:=Prod.mk.inj p;have d:=l i f u;have a:i<xs.length:=by rw[k];exact(Array.getElem?_eq_some_iff.1 u).1
 rw[j,qJ a] at d;exact⟨_,_,d⟩
theorem PZ {e c:Nat} (n:prog.underlying t=some (.array b e)) (h:Td enc w base spare held t cs) (d:prog.cellsOf e=c): ∀i,i<b->Td enc w base spare held e ((cs.drop (i* c)).take c):=by
 obtain⟨k,y,h⟩:=h;obtain⟨xs,m,_,_,_,j,f⟩:=DataW.trod_array n h;intro i g;have a:=f i g;rw[d,qJ zo] at a;exact⟨_,_,a⟩
theorem gG {k:IntKind} (a:prog.underlying t=some (.int k)) (h:Td enc w base spare held t cs): ∃n,cs=[.int k n]/\(Lit.int k n).wf=true:=by
 obtain⟨_,_,h⟩:=h;obtain⟨b,e,_,g⟩:=DataW.trod_int a h;exact⟨b,e,g⟩
theorem Ad (a:prog.underlying t=some .bool) (h:Td enc w base spare held t cs): ∃b,cs=[.bool b]:=by
 obtain⟨_,_,h⟩:=h;obtain⟨b,e,_⟩:=DataW.trod_bool a h;exact⟨b,e⟩
theorem Ae (a:prog.underlying t=some .string) (h:Td enc w base spare held t cs): ∃s:Bs,cs=[.string (bs s)]:=by
 obtain⟨_,_,h⟩:=h;obtain⟨b,e,_⟩:=DataW.trod_string a h;exact⟨b.data.toList,e⟩
theorem Af (K:bO a) {G:a->Prop} (j:prog.underlying t=some (.slice c)) (b:prog.cellsOf c=K.sz) (g: ∀ {cs'},Td enc w base spare held c cs'-> ∃e:a,cs'=K.f e/\G e) (h:Td enc w base spare held t cs): ∃A α ys,cs=[.slice A ys.length α]/\RS w K A ys/\ ∀i,i<ys.length->G (ys.getD i K.d):=by
 obtain⟨_,_,h⟩:=h;obtain⟨A,n,α,ys,k,rfl,l,m⟩:=Gp K G j b (λ_ _ _ h=>g ⟨_,_,h⟩) h;exact⟨A,α,ys,k,l,m⟩
end
theorem kRI {l:List a} (h:l.length=13): ∃α b c d e f g i j k m n o,l=[α,b,c,d,e,f,g,i,j,k,m,n,o]:=by
 match l,h with
 |[α,b,c,d,e,f,g,i,j,k,m,n,o],_=>exact⟨α,b,c,d,e,f,g,i,j,k,m,n,o,rfl⟩
theorem kRJ {l:List a} (h:l.length=18): ∃α b c d e f g i j k m n o p q r s t,l=[α,b,c,d,e,f,g,i,j,k,m,n,o,p,q,r,s,t]:=by
 match l,h with
 |[α,b,c,d,e,f,g,i,j,k,m,n,o,p,q,r,s,t],_=>exact⟨α,b,c,d,e,f,g,i,j,k,m,n,o,p,q,r,s,t,rfl⟩
theorem kRK {l:List a} (h:l.length=4): ∃α b c d,l=[α,b,c,d]:=by
 match l,h with
 |[α,b,c,d],_=>exact⟨α,b,c,d,rfl⟩
theorem kRL {l:List a} (h:l.length=8): ∃α b c d e f g i,l=[α,b,c,d,e,f,g,i]:=by
 match l,h with
 |[α,b,c,d,e,f,g,i],_=>exact⟨α,b,c,d,e,f,g,i,rfl⟩
theorem mJ:prog.cellsOf 3=1:=zk
theorem Ag:prog.cellsOf 4=1:=zk
theorem jV:prog.cellsOf 43=1:=zk
theorem Ah:prog.cellsOf 9=1:=zk
theorem xl:prog.cellsOf 56=1:=zk
theorem FQ:prog.cellsOf 69=1:=zk
theorem FR:prog.cellsOf 70=1:=zk
theorem kZG:prog.cellsOf 196=1:=zk
theorem FS:prog.cellsOf 57=4:=zk
theorem FT:prog.cellsOf 58=6:=zk
theorem xm:prog.cellsOf 60=13:=zk
theorem xn:prog.cellsOf 62=3:=zk
theorem vZ:prog.cellsOf 64=18:=zk
theorem GP:prog.cellsOf 190=3:=zk
theorem Pa:prog.cellsOf 200=3:=zk
theorem Pb:prog.cellsOf 195=4:=zk
theorem Pc:prog.cellsOf 198=8:=zk
theorem va:prog.cellsOf 72=3:=zk
theorem rq {n:Int} (h:(Lit.int .u64 n).wf=true):u64 n:=by
 simp only[Lit.wf,qg,qj] at h;have a:(0:Int)<=n:=h.1;have b:n<=18446744073709551615:=h.2;exact⟨a,zo⟩
section
variable {cs:List Value}
theorem kRQ (h:Td enc w base spare held 3 cs): ∃a:Int,cs=(Rails.aD .i64).f a/\True:=by
 obtain⟨b,e,_⟩:=gG underlying3 h;exact⟨b,e,trivial⟩
theorem kRR (h:Td enc w base spare held 9 cs): ∃a:Bs,cs=aN.f a/\True:=by
 obtain⟨s,e⟩:=Ae underlying9 h;exact⟨s,e,trivial⟩
theorem xo (h:Td enc w base spare held 56 cs): ∃a:Hd,cs=[.slice a.A a.ys.length a.c]/\RS w (Rails.aD .i64) a.A a.ys:=by
 obtain⟨A,c,ys,e,r,_⟩:=Af (Rails.aD .i64) underlying56 mJ (λh=>kRQ h) h;exact⟨⟨A,c,ys⟩,e,r⟩
theorem kSn (h:Td enc w base spare held 60 cs): ∃a:au,cs=dH a/\a.rs w:=by
 obtain⟨u,j,l,m,n,p,q,r,s,t,d,f,g,rfl⟩:=kRI ((px underlying60 h).trans xm);obtain⟨v,x,_⟩:=gG underlying3 (cs:=[u]) (dx (o:=0) (c:=1) underlying60 h 0 rfl mJ);have y:Td enc w base spare held 57 [j,l,m,n]:=dx (o:=1) (c:=4) underlying60 h 1 z6 FS;have z:Td enc w base spare held 58 [p,q,r,s,t,d]:=dx (o:=5) (c:=6) underlying60 h 2 z6 FT;obtain⟨A,B,_⟩:=gG underlying3 (cs:=[f]) (dx (o:=11) (c:=1) underlying60 h 3 rfl mJ);obtain⟨C,D,_⟩:=gG underlying3 (cs:=[g]) (dx (o:=12) (c:=1) underlying60 h 4 rfl mJ);have e:=PZ underlying57 y xl;have b:=PZ underlying58 z mJ;obtain⟨r0,E,F⟩:=xo (cs:=[j]) (e 0 zd);obtain⟨G,H,I⟩:=xo (cs:=[l]) (e 1 zd);obtain⟨J,K,L⟩:=xo (cs:=[m]) (e 2 zd);obtain⟨M,N,O⟩:=xo (cs:=[n]) (e 3 zd);obtain⟨P,Q,_⟩:=gG underlying3 (cs:=[p]) (b 0 zd);obtain⟨R,S,_⟩:=gG underlying3 (cs:=[q]) (b 1 zd);obtain⟨T,U,_⟩:=gG underlying3 (cs:=[r]) (b 2 zd);obtain⟨V,W,_⟩:=gG underlying3 (cs:=[s]) (b 3 zd);obtain⟨X,Y,_⟩:=gG underlying3 (cs:=[t]) (b 4 zd);obtain⟨Z,i,_⟩:=gG underlying3 (cs:=[d]) (b 5 zd);cases x;cases E;cases H;cases K;cases N;cases Q;cases S;cases U;cases W;cases Y;cases i;cases B;cases D;refine⟨⟨v,r0,G,J,M,P,R,T,V,X,Z,A,C⟩,rfl,λk hk=>?_⟩;obtain rfl|rfl|rfl|rfl:k=0\/k=1\/k=2\/k=3:=zo
 ·exact F
 ·exact I
 ·exact L
 ·exact O
theorem kSo (h:Td enc w base spare held 62 cs): ∃a:cu,cs=ar.f a/\RS w (Rails.aD .i64) a.sup.A a.sup.ys/\0<=a.dly:=by
 obtain⟨b,d,e,rfl⟩:=yD ((px underlying62 h).trans xn);obtain⟨i,j,_⟩:=gG underlying3 (cs:=[b]) (dx (o:=0) (c:=1) underlying62 h 0 rfl mJ);obtain⟨k,l,m⟩:=xo (cs:=[d]) (dx (o:=1) (c:=1) underlying62 h 1 rfl xl);obtain⟨n,p,g⟩:=gG underlying43 (cs:=[e]) (dx (o:=2) (c:=1) underlying62 h 2 rfl jV);cases j;cases l;cases p;exact⟨⟨i,k,n⟩,rfl,m,(rq g).1⟩
theorem Qv (h:Td enc w base spare held 64 cs): ∃a:bR,cs=aG.f a/\a.pw.rs w/\RS w (Rails.aD .i64) a.il.sup.A a.il.sup.ys/\0<=a.il.dly:=by
 obtain⟨m,n,p,q,r,s,t,u,v,x,b,d,e,g,i,j,k,l,rfl⟩:=kRJ ((px underlying64 h).trans vZ);obtain⟨y,z,_⟩:=gG underlying3 (cs:=[m]) (dx (o:=0) (c:=1) underlying64 h 0 rfl mJ);obtain⟨B,C,D⟩:=kSn (cs:=[n,p,q,r,s,t,u,v,x,b,d,e,g]) (dx (o:=1) (c:=13) underlying64 h 1 rfl xm);obtain⟨E,F,G⟩:=kSo (cs:=[i,j,k]) (dx (o:=14) (c:=3) underlying64 h 2 rfl xn);obtain⟨H,I⟩:=Ae underlying9 (cs:=[l]) (dx (o:=17) (c:=1) underlying64 h 3 rfl Ah);cases z;cases C;cases F;cases I;exact⟨⟨y,B,E,H⟩,rfl,D,G⟩
theorem kSq (h:Td enc w base spare held 200 cs): ∃a:Ro,cs=ax.f a/\mO a:=by
 obtain⟨b,d,e,rfl⟩:=yD ((px underlying200 h).trans Pa);obtain⟨g,i⟩:=Ad underlying4 (cs:=[b]) (dx (o:=0) (c:=1) underlying200 h 0 rfl Ag);obtain⟨j,k,l⟩:=gG underlying43 (cs:=[d]) (dx (o:=1) (c:=1) underlying200 h 1 rfl jV);obtain⟨m,n,p⟩:=gG underlying43 (cs:=[e]) (dx (o:=2) (c:=1) underlying200 h 2 rfl jV);cases i;cases k;cases n;exact⟨⟨g,j,m⟩,rfl,rq l,rq p⟩
theorem kSr (h:Td enc w base spare held 195 cs): ∃g:Gd,cs=[.bool g.used,.int .u64 g.reg,.int .u64 g.mask,.int .u64 g.val]/\uU g:=by
 obtain⟨a,b,d,e,rfl⟩:=kRK ((px underlying195 h).trans Pb);obtain⟨f,i⟩:=Ad underlying4 (cs:=[a]) (dx (o:=0) (c:=1) underlying195 h 0 rfl Ag);obtain⟨j,k,l⟩:=gG underlying43 (cs:=[b]) (dx (o:=1) (c:=1) underlying195 h 1 rfl jV);obtain⟨m,n,p⟩:=gG underlying43 (cs:=[d]) (dx (o:=2) (c:=1) underlying195 h 2 rfl jV);obtain⟨q,r,s⟩:=gG underlying43 (cs:=[e]) (dx (o:=3) (c:=1) underlying195 h 3 rfl jV);cases i;cases k;cases n;cases r;exact⟨⟨f,j,m,q⟩,rfl,rq l,rq p,rq s⟩
theorem kSs (h:Td enc w base spare held 198 cs): ∃a:TH,cs=aK.f a/\RS w ax a.A a.t.ops/\sK a.t:=by
 obtain⟨e,j,k,l,m,n,p,q,rfl⟩:=kRL ((px underlying198 h).trans Pc);obtain⟨r,s,_⟩:=gG underlying3 (cs:=[e]) (dx (o:=0) (c:=1) underlying198 h 0 rfl mJ);obtain⟨u,v⟩:=Ae underlying9 (cs:=[j]) (dx (o:=1) (c:=1) underlying198 h 1 rfl Ah);obtain⟨g,x,y⟩:=kSr (cs:=[k,l,m,n]) (dx (o:=2) (c:=4) underlying198 h 2 rfl Pb);obtain⟨A,c,z,B,C,b⟩:=Af ax (cs:=[p]) underlying196 Pa (λh=>kSq h) (dx (o:=6) (c:=1) underlying198 h 3 rfl kZG);obtain⟨D,E,_⟩:=gG underlying3 (cs:=[q]) (dx (o:=7) (c:=1) underlying198 h 4 rfl mJ);cases s;cases v;cases x;cases B;cases E;exact⟨⟨⟨r,u,g,z,D⟩,A,c⟩,rfl,C,y,λo F=>by
  obtain⟨i,d,rfl⟩:=List.getElem_of_mem F;have:=b i d;simpa[List.getD,d] using this⟩
theorem Qw (h:Td enc w base spare held 72 cs): ∃a:DH,cs=gl.f a/\DR w a/\du a.d:=by
 obtain⟨g,j,k,rfl⟩:=yD ((px underlying72 h).trans va);obtain⟨l,m⟩:=Ae underlying9 (cs:=[g]) (dx (o:=0) (c:=1) underlying72 h 0 rfl Ah);obtain⟨n,p,ss,q,r,_⟩:=Af aN (cs:=[j]) underlying69 Ah (λh=>kRR h) (dx (o:=1) (c:=1) underlying72 h 1 rfl FQ);obtain⟨s,u,v,y,z,e⟩:=Af aK (cs:=[k]) underlying70 Pc (λh=>kSs h) (dx (o:=2) (c:=1) underlying72 h 2 rfl FR);cases m;cases q;cases y;exact⟨⟨l,n,p,ss,s,u,v⟩,rfl,⟨r,z,λi b=>(e i b).1⟩,λt A=>by
  obtain⟨x,B,rfl⟩:=List.mem_map.1 A;obtain⟨i,b,rfl⟩:=List.getElem_of_mem B;have:=(e i b).2;simpa[List.getD,b] using this⟩
end
theorem xx {cs:List Value} {y:DataW H×List MemPlace} {Q:Prop} (f:Td enc w base spare held c cs->Q) (h:DataW.trod enc prog w base spare held b c cs=some y):Q:=f ⟨_,_,h⟩
theorem xw (K:bO a) (G:a->Prop) {e:TypeId} {r:Reach} {v:Value} {d:DataW H} {ps:List MemPlace} (h:prog.underlying c=some (.slice e)) (j:prog.cellsOf e=K.sz)
 (k: ∀n cs' y,DataW.trod enc prog w base spare held n e cs'=some y-> ∃x:a,cs'=K.f x/\G x) (t:Value.okWide prog w r b c v) (z:DataW.Trod enc prog w base spare held c v d ps):
 ∃(A:Option Addr) (α:Nat) (ys:List a),v= .slice A ys.length α/\RS w K A ys/\ys.length<=9223372036854775807/\ ∀i,i<ys.length->G (ys.getD i K.d):=by
 obtain⟨A,n,α,rfl⟩:=okWide_slice h t;obtain⟨p,q⟩:=z;obtain⟨E,F,I,ys,s,l,o,B⟩:=Gp K G h j k q;simp[Value.cells] at s;obtain⟨rfl,rfl,rfl⟩:=s;subst l;refine⟨_,_,ys,rfl,o,?_,B⟩;rcases open_slice h q with ⟨u,_⟩|⟨x,len,cap,m,n,D,J,g,L,M,N,C,O,P⟩
 ·simp[Value.cells] at u;have:=u.2.1;simp[this]
 ·simp[Value.cells] at g;have Q:=g.2.1;have R:maxLen=9223372036854775807:=rfl;omega
end
theorem Qz {l:List (String×DataW Unit)} {n:String} {d:DataW Unit} {W:World} (h:laidMet prog l W) (c:("strconv.ErrRange",DataW.iface n d)∈l):Dv.dw W:=by
 obtain⟨g,t,cs,a,p,b,f,i,j⟩:=Lib.laidMet.reads h c;obtain rfl:g=4:=qY (b.symm.trans (show prog.globalNamed "strconv.ErrRange"=some 4 by kernel_rfl));have k:(prog.globals[4]?).map (·.type)=some 483:=zk
 obtain rfl:=qY (f.symm.trans k);obtain⟨o,u,v,e,_⟩:=iface_of_trod underlying483 j;have m:=World.var?_cell b i 0;refine⟨u,v,m.trans ?_⟩;rw[<-Array.getElem?_toList,e];rfl
end Go.Proofs.YtepmocimmmjinaaGreatDoor.Pw
