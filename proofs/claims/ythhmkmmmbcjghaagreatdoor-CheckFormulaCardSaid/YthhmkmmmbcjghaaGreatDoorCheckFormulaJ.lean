/- Own texts for CheckFormula, cut and joined by a program. -/
import Derived.Test.YthhmkmmmbcjghaaGreatDoorCheckFormulaI
import Derived.Test.YthhmkmmmbcjghaaGreatDoorRows
import Derived.Carry
import Derived.ChangeSlices
import Derived.OpenShut
set_option linter.all false
namespace Go.Proofs.YthhmkmmmbcjghaaGreatDoor
open Go.Lib Go.ChangeAt Go.ChangeShapes Go.WideShapes Go.RowKit
theorem Wn{Y:Type}(R:Nat->Y->Ex->Prop):∀(ys:List Y),(∀i y,ys[i]? =some y->∃e,R i y e)->∃l:List Ex,l.length=ys.length/\∀i y e,ys[i]? =some y->l[i]? =some e->R i y e
 |[],_=>⟨[],rfl,λi y e h=>by simp at h⟩
 |y::ys,h=>by
  obtain ⟨e,d⟩:=h 0 y rfl;obtain ⟨l,hl,c⟩:=Wn (λi=>R (i+1)) ys (λi y a=>h (i+1) y (by simpa using a));refine ⟨e::l,by simp [hl],λi b e' a hx=>?_⟩;cases i with
  |zero=>
   simp only [gx,cC] at a hx;subst a;subst hx;exact d
  |succ i=>exact c i b e' (by simpa using a) (by simpa using hx)
theorem anm{H:Type}:∀(l:List Ex) (ds:List (DataW H)),l.length=ds.length->(∀(i:Nat) (e:Ex) (d:DataW H),l[i]? =some e->ds[i]? =some d->e.sz<=Rows.uptoBulk d)->DF l<=Rows.uptoBulkAll ds
 |[],[],_,_=>ch _
 |e::l,d::ds,hl,h=>by
  have c:=h 0 e d rfl rfl;have b:=anm l ds (by simpa using hl) (λi e d a hd=>h (i+1) e d (by simpa using a) (by simpa using hd));simp only [DF,Rows.uptoBulkAll];omega
 |[],_::_,h,_=>by simp at h
 |_::_,[],h,_=>by simp at h
theorem Vi{H:Type}(d:DataW H):1<=Rows.uptoBulk d:=by
 cases d with
 |lit l=>cases l <;> simp [Rows.uptoBulk]
 |nil=>simp [Rows.uptoBulk]
 |ptr d=>simp [Rows.uptoBulk]
 |slice e b=>simp [Rows.uptoBulk]
 |agg c=>simp [Rows.uptoBulk]
 |iface t d=>simp [Rows.uptoBulk]
 |map a=>simp [Rows.uptoBulk]
 |held h=>simp [Rows.uptoBulk]
theorem Gx{H:Type}{d:DataW H}:∀{l:List (DataW H)},d∈l->Rows.uptoBulk d<=Rows.uptoBulkAll l
 |x::r,h=>by
  simp only [Rows.uptoBulkAll];rcases List.mem_cons.1 h with rfl|h
  .omega
  .have:=Gx h;omega
structure ann(P:Program)(t:TypeId):Prop where
 fields:∃(fs:Array Field) (f0 f1 f2 f3:Field),P.underlying t=some (.struct fs)/\fs.size=4/\fs[0]? =some f0/\fs[1]? =some f1/\fs[2]? =some f2/\fs[3]? =some f3/\
  (f0.offset=0/\P.underlying f0.type=some (.int .i64)/\P.cellsOf f0.type=1)/\(f1.offset=1/\P.underlying f1.type=some (.int .i64)/\P.cellsOf f1.type=1)/\
  (f2.offset=2/\P.underlying f2.type=some (.int .i64)/\P.cellsOf f2.type=1)/\(f3.offset=3/\P.underlying f3.type=some (.slice t)/\P.cellsOf f3.type=1)
 cells:P.cellsOf t=4
theorem atp{P:Program}{w:World}{a:Nat}{t:TypeId}{v:Value}{c:Array Field}(b:P.underlying t=some (.struct c))(h:Value.okWide P w .any a t v):
  ∃cs,v= .agg cs/\cs.size=P.cellsOf t/\Row.okWide P w .any a t cs:=by
 unfold Value.okWide at h;rw [b] at h;exact h
theorem aj4{w:World}{a:Addr}{v:Value}(h:w.cell? a=some v):a.spot=none/\∃cs e fr,w.heap[a.block]? =some (.cells cs e fr)/\cs[a.off]? =some v:=by
 unfold World.cell? at h;split at h
 .rename_i cs e fr hb;split at h
  .cases h
  next b=>exact ⟨by simpa using b,cs,e,fr,hb,h⟩
 .cases h
theorem ako{H:Type}{B:TypeId×Value->H}{P:Program}{W:World}{t:TypeId}(L:ann P t):∀(o:Nat) (cs:yp) (x:DataW H×List MemPlace),
  DataW.trod B P W 0 (λ_=>true) true o t cs=some x->∃e,xA (λ_=>False) W cs e/\e.sz<=Rows.uptoBulk x.1:=by
 intro o
 induction o using Nat.strongRecOn with
 |ind o ih=>
 intro cs x h;obtain ⟨⟨fs,f0,f1,f2,f3,hT,hsz,g0,g1,g2,g3,⟨o0,u0,c0⟩,⟨o1,u1,c1⟩,⟨o2,u2,c2⟩,⟨o3,u3,c3⟩⟩,hc⟩:=L;obtain ⟨xs,n,rfl,rfl,hl,D,X⟩:=DataW.trod_struct hT h;rw [hc] at hl;rw [hsz] at D;obtain ⟨a0,V,U,C,rfl⟩:∃a0 V U C,cs=[a0,V,U,C]:=by
  match cs,hl with
  |[a,b,c,d],_=>exact ⟨a,b,c,d,rfl⟩
 obtain ⟨x0,x1,x2,z,rfl⟩:∃a0 V U C,xs=[a0,V,U,C]:=by
  match xs,D with
  |[a,b,c,d],_=>exact ⟨a,b,c,d,rfl⟩
 have Z:=X 0 f0 g0;have t1:=X 1 f1 g1;have t2:=X 2 f2 g2;have Y:=X 3 f3 g3;rw [o0,c0] at Z;rw [o1,c1] at t1;rw [o2,c2] at t2;rw [o3,c3] at Y;simp only [n3,qV,List.take_zero,List.drop_succ_cons,gx,cH] at Z t1 t2 Y;obtain ⟨w,e0,_,_⟩:=DataW.trod_int u0 Z;obtain ⟨v,e1,_,_⟩:=DataW.trod_int u1 t1;obtain ⟨u,e2,_,_⟩:=DataW.trod_int u2 t2;obtain rfl:a0= .int .i64 w:=by simpa using e0
 obtain rfl:V= .int .i64 v:=by simpa using e1
 obtain rfl:U= .int .i64 u:=by simpa using e2
 have hb:∀d,z.1=d->Rows.uptoBulk d+1<=Rows.uptoBulk (DataW.agg ([x0,x1,x2,z].map (·.1))):=λd hd=>by subst hd;have:=Gx (d:=z.1) (l:=[x0,x1,x2,z].map (·.1)) (by simp);simp only [Rows.uptoBulk];omega
 rcases DataW.trod_slice u3 Y with ⟨p,E⟩|⟨a,len,cap,f,rest,m,rfl,p,E,_,hlc,_,J,O,hsp,_⟩
 .obtain rfl:C= .slice none 0 0:=by simpa using p
  refine ⟨.mk w v u [],.nil w v u none,?_⟩;have:=hb _ rfl;have:=Vi z.1;simp only [Ex.sz,DF];omega
 .obtain rfl:C= .slice (some a) len cap:=by simpa using p
  obtain ⟨hrl,G⟩:=hsp rfl;rw [hc] at O G
  -- all of it is there
  have cell:∀i,i<cap->∃us y,W.cells? 0 (a.add (i*4)) 4=some us/\us.length=4/\(∀j,j<4->W.cell? ((a.add (i*4)).add j)=us[j]?)/\DataW.trod B P W 0 (λ_=>true) true m t us=some y/\(i<len->f[i]? =some y):=λi hi=>by
   by_cases M:i<len
   .obtain ⟨y,q⟩:∃y,f[i]? =some y:=⟨f[i]'(by omega),cB _⟩;have:=O i M;rw [q,qW] at this;obtain ⟨us,A,S⟩:=this;obtain ⟨_,p,s⟩:=World.cells?_some A;exact ⟨us,y,A,p,s,S,λ_=>q⟩
   .obtain ⟨y,q⟩:∃y,rest[i-len]? =some y:=⟨rest[i-len]'(by omega),cB _⟩;have:=G (i-len) (by omega);rw [q,qW] at this;obtain ⟨us,A,S⟩:=this;have e:len+(i-len)=i:=by omega
    rw [e] at A;obtain ⟨_,p,s⟩:=World.cells?_some A;exact ⟨us,y,A,p,s,S,λh=>absurd h M⟩
  by_cases Q:cap=0
  .subst Q;obtain rfl:len=0:=by omega
   refine ⟨.mk w v u [],.nil w v u (some a),?_⟩;have:=hb _ rfl;have:=Vi z.1;simp only [Ex.sz,DF];omega
  .obtain ⟨us0,_,_,hl0,hc0,_⟩:=cell 0 (by omega);have T:=hc0 0 (by omega);rw [cB (by omega)] at T;obtain ⟨hs,k,e',fr,R,_⟩:=aj4 T;have F:a.spot=none:=by simpa [Addr.add] using hs
   have g:W.heap[a.block]? =some (.cells k e' fr):=by simpa [Addr.add] using R
   obtain ⟨b,off,sp⟩:=a;simp only at F g;subst F;have at_:∀i j,((⟨b,off,none⟩:Addr).add (i*4)).add j=⟨b,off+i*4+j,none⟩:=λi j=>by unfold Addr.add;split <;> split <;> simp_all
   have r:∀i,i<cap->∃us y,us.length=4/\(∀j,j<4->k[off+i*4+j]? =us[j]?)/\DataW.trod B P W 0 (λ_=>true) true m t us=some y/\(i<len->f[i]? =some y):=λi hi=>by obtain ⟨us,y,_,p,s,h5,h6⟩:=cell i hi;refine ⟨us,y,p,λj K=>?_,h5,h6⟩;have:=s j K;rw [at_] at this;simpa [World.cell?,g] using this
   have hsize:off+cap*4<=k.size:=by obtain ⟨us,_,p,s,_⟩:=r (cap-1) (by omega);have:=s 3 (by omega);rw [cB (by omega)] at this;have:=(Array.getElem?_eq_some_iff.1 this).1;omega
   have N:∀i y,f[i]? =some y->∃e,(xA (λ_=>False) W (((k.toList.drop off).drop (i*4)).take 4) e/\e.sz<=Rows.uptoBulk y.1):=λi y q=>by
    have hi:i<len:=by rw [<-J];exact (List.getElem?_eq_some_iff.1 q).1
    obtain ⟨us,y',p,s,h5,h6⟩:=r i (by omega);obtain rfl:y'=y:=by have:=h6 hi;rw [q] at this;exact (qe this).symm
    have hus:((k.toList.drop off).drop (i*4)).take 4=us:=by
     apply qF;intro j;by_cases K:j<4
     .rw [ko,pa K,j5,j5,<-s j K];simp [qH]
     .rw [ko,n7 K,j6 (by omega)]
    rw [hus];exact ih m (by omega) us y' h5
   obtain ⟨l,hll,hR⟩:=Wn (λi y e=>xA (λ_=>False) W (((k.toList.drop off).drop (i*4)).take 4) e/\e.sz<=Rows.uptoBulk y.1) f N;have I:l.length=len:=by omega
   refine ⟨.mk w v u l,?_,?_⟩
   .rw [<-I];refine .some w v u l b off cap k e' fr (λh=>h) g (by omega) (by omega) ?_ (λi hi=>?_)
    .simp only [cx,cO,de];omega
    .obtain ⟨y,q⟩:∃y,f[i]? =some y:=⟨f[i]'(by omega),cB _⟩;have:=(hR i y l[i] q (cB _)).1;rw [qj,pc];have e4:min 4 (l.length*4-i*4)=4:=by omega
     rw [e4];exact this
   .have A:=anm l (f.map (·.1)) (by simp [hll]) (λi e d he hd=>by rw [p5,Option.map_eq_some_iff] at hd;obtain ⟨y,q,rfl⟩:=hd;exact (hR i y e q he).2)
    have S:z.1= .slice (f.map (·.1)) (rest.map (·.1)):=by rw [E]
    have p:=hb _ S;simp only [Ex.sz];have s:Rows.uptoBulk (DataW.slice (f.map (·.1)) (rest.map (·.1)))=Rows.uptoBulkAll (f.map (·.1))+Rows.uptoBulkAll (rest.map (·.1))+1:=by simp only [Rows.uptoBulk]
    omega
variable {Q : Nat -> Prop} {W : World}
open Go.ChangeMaps (open_string)
def uz:Ty->w5
 | .p a b=>uz a++uz b
 | .l _|.ex=>[none]
 |_=>[]
def atE:Ty->Pt
 | .i k=> .int k
 | .bo=> .bool
 | .s=> .str
 | .l t=> .sli t
 |t=> .dat t (uz t)
def JW(Q:Nat->Prop):(t:Ty)->t.T->Prop
 | .i k,x=>(Lit.int k x).wf=true
 | .s,x=>x.length<=9223372036854775807
 | .p a b,x=>JW Q a x.1/\JW Q b x.2
 | .l t,x=>(List.length (α:=t.T) x<=9223372036854775807/\Q (List.length (α:=t.T) x))/\∀y:t.T,List.Mem y x->JW Q t y
 | .ex,x=>Q x.sz
 |_,_=>True
def NV(P:Program)(t:TypeId):Bool:=(match P.underlying t with
 |some (.int .i64)=>true
 |_=>false)&&P.cellsOf t==1
def exB(P:Program)(t:TypeId):Bool:=(match P.underlying t with
 |some (.struct fs)=>(match fs.toList with
  |[f0,f1,f2,f3]=>f0.offset==0&&NV P f0.type&&(f1.offset==1&&NV P f1.type)&&(f2.offset==2&&NV P f2.type)&&(f3.offset==3&&P.cellsOf f3.type==1&&(match P.underlying f3.type with
   |some (.slice e)=>e==t
   |_=>false))
  |_=>false)
 |_=>false)&&P.cellsOf t==4
def CG(P:Program)(fit:TypeId->Ty->Bool)(tot:Nat):List Field->Nat->Ty->Bool
 |[],_,_=>false
 |[f],off,t=>f.offset==off&&off+P.cellsOf f.type==tot&&P.cellsOf f.type==t.rep.n&&fit f.type t
 |f::g::fs,off,t=>match t with
  | .p a b=>f.offset==off&&P.cellsOf f.type==a.rep.n&&fit f.type a&&CG P fit tot (g::fs) (off+P.cellsOf f.type) b
  |_=>false
def fits(P:Program):Nat->TypeId->Ty->Bool
 |0,_,_=>false
 |n+1,i,t=>match P.underlying i with
  |some (.int k)=>(match t with
   | .i k'=>decide (k=k')
   |_=>false)
  |some .bool=>(match t with
   | .bo=>true
   |_=>false)
  |some .string=>(match t with
   | .s=>true
   |_=>false)
  |some (.slice e)=>(match t with
   | .l u=>P.cellsOf e==u.rep.n&&Nat.blt 0 u.rep.n&&fits P n e u
   |_=>false)
  |some (.struct fs)=>(match t with
   | .ex=>exB P i
   | .p a b=>CG P (fits P n) (P.cellsOf i) fs.toList 0 (.p a b)
   |_=>false)
  |_=>false
def noN:Ty->Bool
 | .n=>false
 | .p a b=>noN a&&noN b
 |_=>true
theorem OY{P:Program}{c:TypeId->Ty->Bool}(h:∀i t,c i t=true->noN t=true){d:Nat}:∀(j:List Field) (off:Nat) (t:Ty),CG P c d j off t=true->noN t=true
 |[],_,_,e=>by cases e
 |[f],off,t,e=>by
  simp only [CG,ar] at e;exact h _ _ e.2
 |f::g::j,off,t,e=>by
  unfold CG at e;split at e
  next a b=>simp only [ar] at e;simp only [noN,ar];exact ⟨h _ _ e.1.2,OY h (g::j) _ b e.2⟩
  .cases e
theorem agy{P:Program}:∀(n:Nat) (i:TypeId) (t:Ty),fits P n i t=true->noN t=true
 |0,_,_,e=>by cases e
 |n+1,i,t,e=>by
  unfold fits at e;split at e <;> (try cases e)
  .split at e
   .rfl
   .cases e
  .split at e
   .rfl
   .cases e
  .split at e
   .rfl
   .cases e
  .split at e
   .rfl
   .cases e
  .split at e
   .rfl
   .exact OY (λi t=>agy n i t) _ _ _ e
   .cases e
theorem vR{P:Program}{t:TypeId}(h:NV P t=true):P.underlying t=some (.int .i64)/\P.cellsOf t=1:=by
 unfold NV at h;simp only [ar,eT] at h;refine ⟨?_,h.2⟩;revert h;split
 next h=>intro _;exact h
 .intro h;cases h.1
theorem ata{P:Program}{t:TypeId}(h:exB P t=true):ann P t:=by
 unfold exB at h;simp only [ar,eT] at h;obtain ⟨a,q⟩:=h;split at a
 .rename_i d b;split at a
  .rename_i k j f c hl;simp only [ar,eT] at a;obtain ⟨⟨⟨⟨a0,n⟩,w,m⟩,v,l⟩,⟨u,r⟩,s⟩:=a;have g:∀i:Nat,d[i]? =[k,j,f,c][i]? :=λi=>by rw [<-hl,qv]
   have o:P.underlying c.type=some (.slice t):=by
    revert s;split
    next e p=>intro hb;rw [p,(by simpa using hb:e=t)]
    .intro hb;cases hb
   refine ⟨⟨d,k,j,f,c,b,?_,g 0,g 1,g 2,g 3,⟨a0,(vR n).1,(vR n).2⟩,⟨w,(vR m).1,(vR m).2⟩,⟨v,(vR l).1,(vR l).2⟩,⟨u,o,r⟩⟩,q⟩;rw [<-de,hl];rfl
  .cases a
 .cases a
theorem an9{w:World}{a:Addr}{v:Value}(h:w.cell? a=some v):a.spot=none/\∃cs e fr,w.heap[a.block]? =some (.cells cs e fr)/\cs[a.off]? =some v:=by
 unfold World.cell? at h;split at h
 .rename_i cs e fr hb;split at h
  .cases h
  next b=>exact ⟨by simpa using b,cs,e,fr,hb,h⟩
 .cases h
theorem SH{Y α:Type}(R:Nat->Y->α->Prop):∀(ys:List Y),(∀i y,ys[i]? =some y->∃e,R i y e)->∃l:List α,l.length=ys.length/\∀i y e,ys[i]? =some y->l[i]? =some e->R i y e
 |[],_=>⟨[],rfl,λi y e h=>by simp at h⟩
 |y::ys,h=>by
  obtain ⟨e,d⟩:=h 0 y rfl;obtain ⟨l,hl,c⟩:=SH (λi=>R (i+1)) ys (λi y a=>h (i+1) y (by simpa using a));refine ⟨e::l,by simp [hl],λi b e' a hx=>?_⟩;cases i with
  |zero=>
   simp only [gx,cC] at a hx;subst a;subst hx;exact d
  |succ i=>exact c i b e' (by simpa using a) (by simpa using hx)
theorem R7{H:Type}:∀(l:List (DataW H)),l.length<=Rows.uptoBulkAll l
 |[]=>qk _
 |d::l=>by have:=R7 l;have:=Vi d;simp only [c9,Rows.uptoBulkAll];omega
theorem anU{H α:Type}{s:TypeId×Value->H}{P:Program}{t e:TypeId}{A:eD α}{D:α->Prop}(ht:P.underlying t=some (.slice e))(hA:P.cellsOf e=A.n)(hn:0<A.n)
  (p:Nat) (cs:yp) (x:DataW H×List MemPlace) (O:∀n,n<=Rows.uptoBulk x.1->Q n)
  (he:∀(p:Nat) (us:yp) (y:DataW H×List MemPlace),(∀n,n<=Rows.uptoBulk y.1->Q n)->DataW.trod s P W 0 (λ_=>true) true p e us=some y->∃z,A.rd (λ_=>False) W us z/\D z)
  (h:DataW.trod s P W 0 (λ_=>true) true p t cs=some x):
  ∃(u:gV) (zs:List α),cs=[sl u]/\ca A (λ_=>False) W (sl u) zs/\(zs.length<=9223372036854775807/\Q zs.length)/\∀z∈zs,D z:=by
 rcases DataW.trod_slice ht h with ⟨o,_⟩|⟨a,len,cap,c,rest,m,rfl,o,hx,_,hlc,C,F,K,U,_⟩
 .exact ⟨(none,0,0),[],o,ca.nil,⟨by simp,O _ (qk _)⟩,by simp⟩
 .obtain ⟨hrl,B⟩:=U rfl;rw [hA] at K B;have C:cap<=9223372036854775807:=C;have hb:Rows.uptoBulk x.1=Rows.uptoBulkAll (c.map (·.1))+Rows.uptoBulkAll (rest.map (·.1))+1:=by rw [hx];simp only [Rows.uptoBulk]
  have hlb:len<=Rows.uptoBulk x.1:=by have:=R7 (c.map (·.1));simp only [List.length_map] at this;omega
  have X:∀y∈c,∀n,n<=Rows.uptoBulk y.1->Q n:=λy k n hn=>O n (by have:=Gx (d:=y.1) (l:=c.map (·.1)) (List.mem_map.2 ⟨y,k,rfl⟩);omega)
  have cell:∀i,i<cap->∃us y,us.length=A.n/\(∀j,j<A.n->W.cell? ((a.add (i*A.n)).add j)=us[j]?)/\DataW.trod s P W 0 (λ_=>true) true m e us=some y/\(i<len->c[i]? =some y):=λi hi=>by
   by_cases I:i<len
   .obtain ⟨y,k⟩:∃y,c[i]? =some y:=⟨c[i]'(by omega),cB _⟩;have:=K i I;rw [k,qW] at this;obtain ⟨us,R,h2⟩:=this;obtain ⟨_,o,r⟩:=World.cells?_some R;exact ⟨us,y,o,r,h2,λ_=>k⟩
   .obtain ⟨y,k⟩:∃y,rest[i-len]? =some y:=⟨rest[i-len]'(by omega),cB _⟩;have:=B (i-len) (by omega);rw [k,qW,show len+(i-len)=i by omega] at this;obtain ⟨us,R,h2⟩:=this;obtain ⟨_,o,r⟩:=World.cells?_some R;exact ⟨us,y,o,r,h2,λh=>absurd h I⟩
  by_cases L:cap=0
  .subst L;obtain rfl:len=0:=by omega
   exact ⟨(some a,0,0),[],o,ca.emp,⟨by simp,O _ (qk _)⟩,by simp⟩
  .obtain ⟨us0,_,hl0,V,_⟩:=cell 0 (by omega);have N:=V 0 hn;rw [cB (by omega)] at N;obtain ⟨hs,f,e',fr,M,_⟩:=an9 N;have w:a.spot=none:=by simpa [Addr.add] using hs
   have g:W.heap[a.block]? =some (.cells f e' fr):=by simpa [Addr.add] using M
   obtain ⟨b,off,sp⟩:=a;simp only at w g;subst w;have at_:∀i j,((⟨b,off,none⟩:Addr).add (i*A.n)).add j=⟨b,off+i*A.n+j,none⟩:=λi j=>by unfold Addr.add;split <;> split <;> simp_all
   have q:∀i,i<cap->∃us y,us.length=A.n/\(∀j,j<A.n->f[off+i*A.n+j]? =us[j]?)/\DataW.trod s P W 0 (λ_=>true) true m e us=some y/\(i<len->c[i]? =some y):=λi hi=>by obtain ⟨us,y,o,r,Z,Y⟩:=cell i hi;refine ⟨us,y,o,λj G=>?_,Z,Y⟩;have:=r j G;rw [at_] at this;simpa [World.cell?,g] using this
   have v:off+cap*A.n<=f.size:=by
    obtain ⟨us,_,o,r,_⟩:=q (cap-1) (by omega);have:=r (A.n-1) (by omega);rw [cB (by omega)] at this;have:=(Array.getElem?_eq_some_iff.1 this).1;have e1:cap*A.n=(cap-1)*A.n+A.n:=by
     have:cap=(cap-1)+1:=by omega
     conv=>lhs;rw [this]
     rw [qd,Nat.one_mul]
    omega
   have J:∀i y,c[i]? =some y->∃z,(A.rd (λ_=>False) W (((f.toList.drop off).drop (i*A.n)).take A.n) z/\D z):=λi y k=>by
    have hi:i<len:=by rw [<-F];exact (List.getElem?_eq_some_iff.1 k).1
    obtain ⟨us,S,o,r,Z,Y⟩:=q i (by omega);obtain rfl:S=y:=by have:=Y hi;rw [k] at this;exact (qe this).symm
    have T:((f.toList.drop off).drop (i*A.n)).take A.n=us:=by
     apply qF;intro j;by_cases G:j<A.n
     .rw [ko,pa G,j5,j5,<-r j G];simp [qH]
     .rw [ko,n7 G,j6 (by omega)]
    rw [T];exact he m us S (X S (qf k)) Z
   obtain ⟨l,hll,hR⟩:=SH (λi y z=>A.rd (λ_=>False) W (((f.toList.drop off).drop (i*A.n)).take A.n) z/\D z) c J;have E:l.length=len:=by omega
   have get:∀i (hi:i<l.length),A.rd (λ_=>False) W (((f.toList.drop off).drop (i*A.n)).take A.n) l[i]/\D l[i]:=λi hi=>by obtain ⟨y,k⟩:∃y,c[i]? =some y:=⟨c[i]'(by omega),cB _⟩;exact hR i y l[i] k (cB _)
   refine ⟨(some ⟨b,off,none⟩,len,cap),l,o,.inr ⟨b,off,cap,f,e',fr,by rw [E];rfl,(λh=>h),g,by omega,v,?_⟩,⟨by omega,O _ (by omega)⟩,λz hz=>?_⟩
   .have hle:l.length*A.n<=cap*A.n:=gy _ (by omega);refine ⟨?_,λi hi=>?_⟩
    .simp only [cx,cO,de];omega
    .have R:i*A.n+A.n<=l.length*A.n:=by rw [<-s5];exact gy _ hi
     rw [qj,pc,ed (by omega)];exact (get i hi).1
   .obtain ⟨i,hi,rfl⟩:=List.getElem_of_mem hz;exact (get i hi).2
theorem ahs{H:Type}{U:TypeId×Value->H}{P:Program}:∀(n:Nat) (i:TypeId) (t:Ty),fits P n i t=true->∀(o:Nat) (cs:yp) (x:DataW H×List MemPlace),
  (∀n,n<=Rows.uptoBulk x.1->Q n)->DataW.trod U P W 0 (λ_=>true) true o i cs=some x->∃z:t.T,t.rep.rd (λ_=>False) W cs z/\JW Q t z:=by
 intro n
 induction n with
 |zero=>intro i t h;cases h
 |succ n ih=>
 intro i t c o cs x R h;unfold fits at c;split at c
 .rename_i k s;split at c
  .obtain ⟨z,q,_,v⟩:=DataW.trod_int s h;have e:=qG c;subst e;exact ⟨z,q,v⟩
  .cases c
 .rename_i s;split at c
  .obtain ⟨z,q,_⟩:=DataW.trod_bool s h;exact ⟨z,q,trivial⟩
  .cases c
 .rename_i s;split at c
  .obtain ⟨⟨⟨z⟩⟩,q,_,v⟩:=DataW.trod_string s h;exact ⟨z,q,v⟩
  .cases c
 .rename_i e s;split at c
  next u=>simp only [ar,eT,hW] at c;obtain ⟨⟨q,F⟩,v⟩:=c;obtain ⟨p,zs,a1,a2,a3,a4⟩:=anU (A:=u.rep) (Q:=Q) (D:=JW Q u) s q F o cs x R (λo us y J h=>ih e u v o us y J h) h;exact ⟨zs,⟨p,a1,a2⟩,a3,a4⟩
  .cases c
 .rename_i B s;have key:∀t:Ty,CG P (fits P n) (P.cellsOf i) B.toList 0 t=true->∃z:t.T,t.rep.rd (λ_=>False) W cs z/\JW Q t z:=λt c=>by
   obtain ⟨xs,m,_,hx,hl,K,N⟩:=DataW.trod_struct s h;have hb:Rows.uptoBulk x.1=Rows.uptoBulkAll (xs.map (·.1))+1:=by rw [hx];simp only [Rows.uptoBulk]
   have O:∀y∈xs,∀n,n<=Rows.uptoBulk y.1->Q n:=λy J n hn=>R n (by have:=Gx (d:=y.1) (l:=xs.map (·.1)) (List.mem_map.2 ⟨y,J,rfl⟩);omega)
   have one:∀(j:Nat) (f:Field) (t:Ty),B.toList[j]? =some f->fits P n f.type t=true->∃z:t.T,t.rep.rd (λ_=>False) W ((cs.drop f.offset).take (P.cellsOf f.type)) z/\JW Q t z:=λj f t G Z=>by
    have E:B[j]? =some f:=by simpa using G
    have q:=N j f E;have M:j<xs.length:=by rw [K];exact (Array.getElem?_eq_some_iff.1 E).1
    rw [cB M] at q;exact ih f.type t Z m _ _ (O _ (vc _)) q
   have go:∀(r:List Field) (j off:Nat) (t:Ty),B.toList.drop j=r->CG P (fits P n) (P.cellsOf i) r off t=true->∃z:t.T,t.rep.rd (λ_=>False) W (cs.drop off) z/\JW Q t z:=λr=>by
    induction r with
    |nil=>intro j off t _ h;cases h
    |cons f r I=>
     intro j off t V c;have G:B.toList[j]? =some f:=by have:=congrArg (·[0]?) V;simpa [j5] using this
     have L:B.toList.drop (j+1)=r:=by rw [<-l7,V];rfl
     cases r with
     |nil=>
      simp only [CG,ar,eT] at c;obtain ⟨⟨⟨q,F⟩,v⟩,S⟩:=c;obtain ⟨z,w,C⟩:=one j f t G S;rw [q,hV (by simp;omega)] at w;exact ⟨z,w,C⟩
     |cons g r=>
      unfold CG at c;split at c
      next a b=>simp only [ar,eT] at c;obtain ⟨⟨⟨q,F⟩,v⟩,S⟩:=c;obtain ⟨z,w,C⟩:=one j f a G v;obtain ⟨y,Y,X⟩:=I (j+1) _ b L S;rw [q] at w;refine ⟨(z,y),⟨_,_,?_,w,Y⟩,C,X⟩;rw [<-l7];exact (qN ..).symm
      .cases c
   obtain ⟨z,w,C⟩:=go B.toList 0 0 t rfl c;exact ⟨z,by simpa using w,C⟩
  split at c
  .obtain ⟨e,q,F⟩:=ako (ata c) o cs x h;exact ⟨e,q,R _ F⟩
  .exact key _ c
  .cases c
 .cases c
def l8(W:World)(I:fF):Prop:= ∀it∈I,it.1=false/\it.2.cW=true/\∀M,Mv (λ_=>False) W M W->it.2.P M W
theorem l8.nil:l8 W []:=λit h=>by cases h
theorem l8.app{I J:fF}(h:l8 W I)(k:l8 W J):l8 W (I++J):=λit bQ=>by
 rcases List.mem_append.1 bQ with a|a
 .exact h it a
 .exact k it a
theorem l8.one{α:Type}{A:eD α}{p:gV}{l:List α}(h:ca A (λ_=>False) W (sl p) l):l8 W [(false,Pk true A p l false)]:=λit bQ=>by
 rcases List.mem_singleton.1 bQ with rfl
 exact ⟨rfl,rfl,λM a _=>⟨h.mv a,λh=>by cases h⟩⟩
theorem Mf{W:World}:∀(t:Ty) (cs:yp) (x:t.T),noN t=true->t.rep.rd (λ_=>False) W cs x->∀(o:w5) (N:List Nm),∃I N',Vx t x cs (uz t++o) N I N' o/\l8 W I
 | .i k,cs,x,hn,h,o,N=>⟨[],N,⟨h,rfl,rfl,rfl⟩,.nil⟩
 | .bo,cs,x,hn,h,o,N=>⟨[],N,⟨h,rfl,rfl,rfl⟩,.nil⟩
 | .s,cs,x,hn,h,o,N=>⟨[],N,⟨h,rfl,rfl,rfl⟩,.nil⟩
 | .un,cs,x,hn,h,o,N=>⟨[],N,⟨h,rfl,rfl,rfl⟩,.nil⟩
 | .n,cs,x,hn,h,o,N=>by cases hn
 | .mp _ _,cs,x,hn,h,o,N=>absurd h id
 | .p a b,cs,x,hn,h,o,N=>by
  simp only [noN,ar] at hn;obtain ⟨c1,e,d,c,r⟩:=h;obtain ⟨j,f,q,v⟩:=Mf a c1 x.1 hn.1 c (uz b++o) N;obtain ⟨g,N2,m,u⟩:=Mf b e x.2 hn.2 r o f;refine ⟨j++g,N2,⟨c1,e,f,j,g,uz b++o,?_,m,d,rfl⟩,v.app u⟩;rw [show uz (.p a b)++o=uz a++(uz b++o) by simp [uz]];exact q
 | .l t,cs,x,hn,h,o,N=>by
  obtain ⟨p,d,c⟩:=h;exact ⟨_,_,⟨⟨0,p,⟨0,0,none⟩,none,.bool false,⟨.un,()⟩⟩,d,rfl,.inl ⟨rfl,rfl⟩⟩,.one c⟩
 | .ex,cs,x,hn,h,o,N=>by obtain ⟨p,d,c⟩:=KJ h;exact ⟨_,_,⟨⟨0,p,⟨0,0,none⟩,none,.bool false,⟨.un,()⟩⟩,d,rfl,.inl ⟨rfl,rfl⟩⟩,.one c⟩
def Arg(W:World)(t:Ty)(v:Value)(z:t.T):Prop:= ∀N:List Nm,∃I N',Sem (atE t) v none none N [⟨t,z⟩] I [] N'/\l8 W I
theorem Sa{H:Type}{r:TypeId×Value->H}{P:Program}{o:Nat}{n:Nat}{i:TypeId}(t:Ty)(f:fits P n i t=true){v:Value}{d:DataW H}{ps:List MemPlace}
  (l:Value.okWide P W .any o i v) (x:∀n,n<=Rows.uptoBulk d->Q n) (h:DataW.Trod r P W 0 (λ_=>true) true i v d ps):∃z:t.T,Arg W t v z/\JW Q t z:=by
 have hk:=h;obtain ⟨m,hx⟩:=h;obtain ⟨z,c,A⟩:=ahs n i t f m _ _ x hx;refine ⟨z,?_,A⟩;cases n with
 |zero=>cases f
 |succ n=>
 unfold fits at f;split at f
 .rename_i k j;split at f
  .have e:=qG f;subst e;obtain ⟨y,rfl,_⟩:=open_int j l hk;have:y=z:=by
    have c:([.int k y]:yp)=[.int k z]:=c;injection c with c _
    injection c
   subst this;exact λN=>⟨[],N,⟨y,rfl,rfl,rfl,rfl,rfl⟩,.nil⟩
  .cases f
 .rename_i j;split at f
  .obtain ⟨y,rfl,_⟩:=open_bool j l hk;have:y=z:=by
    have c:([.bool y]:yp)=[.bool z]:=c;injection c with c _
    injection c
   subst this;exact λN=>⟨[],N,⟨y,rfl,rfl,rfl,rfl,rfl⟩,.nil⟩
  .cases f
 .rename_i j;split at f
  .obtain ⟨⟨⟨y⟩⟩,rfl,_⟩:=open_string j l hk;have:y=z:=by
    have c:([S y]:yp)=[S z]:=c;injection c with c _
    injection c with c
    injection c with c
    injection c
   subst this;exact λN=>⟨[],N,⟨y,rfl,rfl,rfl,rfl,rfl⟩,.nil⟩
  .cases f
 .rename_i e j;split at f
  .rename_i u;obtain ⟨a,len,cap,rfl⟩:=okWide_slice j l;obtain ⟨p,w,q⟩:=c;have B:Value.slice a len cap=sl p:=by simpa [Value.cells] using w
   rw [B];exact λN=>⟨_,_,⟨⟨0,p,⟨0,0,none⟩,none,.bool false,⟨.un,()⟩⟩,z,rfl,rfl,rfl,rfl,rfl⟩,.one q⟩
  .cases f
 .rename_i D j;obtain ⟨cs,rfl,_,_⟩:=atp j l;split at f
  .obtain ⟨p,w,q⟩:=KJ c;exact λN=>⟨_,_,⟨cs.toList,z,[],by simp,rfl,⟨⟨0,p,⟨0,0,none⟩,none,.bool false,⟨.un,()⟩⟩,w,rfl,.inl ⟨rfl,rfl⟩⟩,rfl⟩,.one q⟩
  .rename_i a b;exact λN=>by
    obtain ⟨I,C,s,g⟩:=Mf (.p a b) _ z (OY (λi t=>agy n i t) _ _ _ f) c [] N;exact ⟨I,C,⟨cs.toList,z,[],by simp,rfl,by simpa [Value.cells] using s,rfl⟩,g⟩
  .cases f
 .cases f
def ap4(W:World)(ps:List Pt)(vs:yp)(D:List cD):Prop:= ∀N:List Nm,∃I N',wB ps vs [] [] N D I [] N'/\l8 W I
theorem aqe:ap4 W [] [] []:=λN=>⟨[],N,⟨rfl,rfl,rfl,rfl,rfl⟩,.nil⟩
theorem aby{W:World}{t:Ty}{v:Value}{z:t.T}{ps:List Pt}{vs:yp}{D:List cD}(h:Arg W t v z)(k:ap4 W ps vs D):ap4 W (atE t::ps) (v::vs) (⟨t,z⟩::D):=λN=>by obtain ⟨c,a,e,g⟩:=h N;obtain ⟨b,N2,d,f⟩:=k a;exact ⟨c++b,N2,⟨v,vs,[⟨t,z⟩],D,c,b,[],[],a,rfl,e,d,rfl,rfl,rfl⟩,g.app f⟩
theorem apC{I:fF}{Γ:Ctx}(g:l8 W I)(hn:Sl Γ)(h:Sat Γ W):Sat (dP I++Γ) W:=DB h _ (λit bQ=>by obtain ⟨x,hx,rfl⟩:=List.mem_map.1 bQ;exact ⟨(g x hx).2.1,(g x hx).2.2 _ (ao4 hn)⟩)
namespace Cf
theorem am0(text:aD)(names:List aD)(_:JW (λ_=>True) .s text)(_:JW (λ_=>True) (.l .s) names):gL text names=some true:=aey text names
end Cf
end Go.Proofs.YthhmkmmmbcjghaaGreatDoor
