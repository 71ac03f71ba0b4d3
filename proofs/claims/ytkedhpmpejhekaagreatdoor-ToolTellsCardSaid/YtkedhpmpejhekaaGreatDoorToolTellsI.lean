/- Own texts for ToolTells, cut and joined by a program. -/
import Derived.Test.YtkedhpmpejhekaaGreatDoorToolTellsH
import Derived.Lib.LaidTab
import Derived.Below
import Derived.ProofKit
import Derived.Test.YtkedhpmpejhekaaGreatDoorRows
import Derived.Carry
import Derived.ChangeSlices
import Derived.OpenShut
set_option linter.all false
namespace Go.Proofs.YtkedhpmpejhekaaGreatDoor
open IntKind (u64 u8)
noncomputable section
open Go.Proofs
noncomputable section
set_option maxRecDepth 100000
open Tryz
def AI:aq:=⟨3,[.str,aak],.bool,[],U2 gM⟩
theorem vY:Ko AI:=
 aw .o call3 func3 (aj Bp (aj EU (aj rf (aj ye (aj wC (aj C6 al))))))
end
namespace To
open Go.Lib
def nb(w:aB):Prop:= ∀b∈w,b≠32
theorem aje:∀(w l cur:aB),nb w->wl (w++l) cur=wl l (cur++w)
 |[],l,cur,_=>by simp
 |b::w,l,cur,h=>by have hb:(b==32)=false:=beq_eq_false_iff_ne.2 (h b (b5 ..));rw [eb,wl,hb,gx (by simp),aje w l (cur++[b]) λc hc=>h c (.tail _ hc)];simp
theorem ai0{w:aB}(h:nb w)(a:w≠[]):wl w []=[w]:=by have:=aje w [] [] h;rw [la,mj] at this;rw [this,wl,gx (by simpa using a)]
theorem Nl(w:aB):∀(l cur:aB),wl (l++32::w) cur=wl l cur++wl w []
 |[],cur=>by
  simp only [mj,wl,qb,qt];split <;> simp
 |b::l,cur=>by
  simp only [eb,wl];split
  .split <;> simp [Nl w l]
  .exact Nl w l _
def dgt(b:UInt8):Prop:=48<=b.toNat/\b.toNat<=57
theorem ac5{k:Nat}(h:k<10):dgt (UInt8.ofNat (48+k)):=by
 have:(UInt8.ofNat (48+k)).toNat=48+k:=by simp [UInt8.toNat_ofNat'];omega
 exact ⟨by omega,by omega⟩
theorem aoF(u:Nat):∀b∈decDigits u,dgt b:=by
 induction u using Nat.strongRecOn with
 |_ u ih=>
  intro b hb;rw [decDigits] at hb;split at hb
  next h=>rw [List.mem_singleton.1 hb];exact ac5 h
  .rcases List.mem_append.1 hb with hb|hb
   .exact ih (u/10) (by omega) b hb
   .rw [List.mem_singleton.1 hb];exact ac5 (ti _ (by omega))
theorem abl(u:Nat):decDigits u≠[]:=by rw [decDigits];split <;> simp
def fk(s:aB)(l:y5):aB:=s++l.flatMap λn=>32::itoa n
def nI:Nat->aB->x4
 |n,[]=>some n
 |n,b::l=>if 48<=b.toNat/\b.toNat<=57 then nI (10*n+(b.toNat-48)) l else none
def aif(s:aB):x4:=if s.length<1\/9<s.length then none else nI 0 s
theorem adz:∀(s t:aB) (n:Nat),nI n (s++t)=(nI n s).bind λm=>nI m t
 |[],t,n=>rfl
 |b::s,t,n=>by
  rw [eb,nI,nI];split
  .exact adz s t _
  .rfl
theorem amp(u:Nat):nI 0 (decDigits u)=some u:=by
 induction u using Nat.strongRecOn with
 |_ u ih=>
  have one:∀n k,k<10->nI n [UInt8.ofNat (48+k)]=some (10*n+k):=λn k a=>by
   have hd:=ac5 a;have:(UInt8.ofNat (48+k)).toNat=48+k:=by simp [UInt8.toNat_ofNat'];omega
   rw [nI,hW (show 48<=_/\_ from hd),nI,this];congr 1;omega
  rw [decDigits];split
  next h=>rw [one 0 u h];simp
  .rw [adz,ih (u/10) (by omega),bj,one _ _ (ti _ (by omega))];congr 1;omega
theorem aiP:∀(k:Nat) (s:aB),nI 0 (List.replicate k 48++s)=nI 0 s
 |0,s=>rfl
 |k+1,s=>by rw [qm,eb,nI,hW (by decide)];exact aiP k s
end To
variable {i : Nat} {α ρ : Type}
namespace To
open Go.Lib
theorem j8{σ:Type}(F:(σ->Option ρ)->σ->Option ρ)(n:Nat)(s:σ):ax F (n+1) s=F (ax F n) s:=rfl
theorem iK{n:Nat}(h:n<18446744073709551616):n<=az:=Nat.le_of_lt h
theorem cJ(k:Option ρ):aG true k=k:=rfl
theorem an1(c:Bool)(k:Option ρ):BS false c k=k:=rfl
theorem Wx(k:Option ρ)(g:Bool):BS g true k=k:=by cases g <;> rfl
theorem Rz(d:α)(m:Option α)(k:α->Option ρ):bw true d m k=m.bind k:=rfl
theorem am3(d:α)(m:Option α)(k:α->Option ρ):bw false d m k=k d:=rfl
theorem jc(x:α)(k:α->Option ρ):ai x k=k x:=rfl
theorem aij{i:Int}{n:Nat}(b:0<=i)(a:i<n):sW i n=true:=wH.2 ⟨b,a⟩
theorem ajt{i j:Int}{n:Nat}(c:0<=i)(b:i<=j)(a:j<=n):dp i j n=true:=B6.2 ⟨⟨c,b⟩,a⟩
theorem fe{m l:aB}(h:m.length+l.length<=9223372036854775807):iU m l=true:=qg h
theorem Wu{k b:Nat}(h:k*b<=140737488355328)(a:k<=9223372036854775807):aH k b=true:=by simp only [aH,ae];exact ⟨qg h,qg a⟩
theorem w1{i:Nat}(h:i<4611686018427387904):IntKind.i64.wrap ((i:Int)+1)=((i+1:Nat):Int):=by rw [u7 (by omega)];rfl
theorem rR{α:Type}{l:List α}{i:Nat}(h:i<l.length):idx l (i:Int)=some l[i]:=by unfold idx;rw [hW (by omega),qw,b9 h]
theorem acT{l:aB}{i:Nat}(h:i<l.length):gw l (i:Int)=(l[i].toNat:Int):=by simp [gw,List.getD,h]
theorem aqP{l:aB}{i:Nat}(h:i<l.length):cut l (i:Int) ((i+1:Nat):Int)=[l[i]]:=by show (l.drop i).take (i+1-i)=_;rw [dk h,show i+1-i=1 by omega];rfl
theorem aoy(b:UInt8)(k:Nat)(a:k<256):((b.toNat:Int)==(k:Int))=(b==UInt8.ofNat k):=by rw [qE,kN,kN,<-UInt8.toNat_inj];simp [UInt8.toNat_ofNat',Nat.mod_eq_of_lt a];omega
theorem S9(a:aB)(e:a.length<4294967296):∀(N i:Nat) (out:List aB) (w:aB),i<=a.length->a.length+2<=N+i->out.length<=i->w.length<=i->
  ax (dw a) N (out,w,(i:Int))=some (out++wl (a.drop i) w)
 |0,i,out,w,h1,h2,_,_=>by omega
 |N+1,i,out,w,h1,h2,h3,h4=>by
  have c:aH (out.length+([w]:List aB).length) 16=true:=Wu (by simp;omega) (by simp;omega);rw [j8];show (bif (decide ((i:Int)<=(a.length:Int))) then _ else _)=_;rw [cp (by omega),c8];simp only [jc];by_cases hi:i<a.length
  .have hb:((a[i].toNat:Int)==32)=(a[i]==32):=aoy a[i] 32 (by decide);rw [cp (show (i:Int)<a.length by omega),aij (by omega) (by omega),Wx,acT hi,qk];have hd:a.drop i=a[i]::a.drop (i+1):=dk hi;rw [hd,wl,show ((a[i].toNat:Int) != 32)= !(a[i]==32) by rw [<-hb];rfl,w1 (by omega)];cases hc:(a[i]==32) with
   |true=>
    simp only [rC,cy,qt];cases w with
    |nil=>
     show ax (dw a) N (out,[],((i+1:Nat):Int))=_;rw [S9 a e N (i+1) out [] (by omega) (by omega) (by omega) (by simp)];rfl
    |cons x w=>
     show aG _ (ax (dw a) N (out++[x::w],[],((i+1:Nat):Int)))=_;rw [c,cJ,S9 a e N (i+1) (out++[x::w]) [] (by omega) (by omega) (by simp;omega) (by simp)];simp
   |false=>
    simp only [Bool.not_false,c8];rw [ajt (by omega) (by omega) (by omega),cJ,aqP hi,fe (by simp;omega),cJ,S9 a e N (i+1) out (w++[a[i]]) (by omega) (by omega) (by omega) (by simp;omega)];rfl
  .have f:i=a.length:=by omega
   rw [cq (show ¬(i:Int)<a.length by omega),an1,vy,cy,w1 (by omega),de (by omega),wl];obtain ⟨d,rfl⟩:∃d,N=d+1:=⟨N-1,by omega⟩;have last:∀b,ax (dw a) (d+1) (b,[],((i+1:Nat):Int))=some b:=λb=>by rw [j8];show (bif (decide (((i+1:Nat):Int)<=(a.length:Int))) then _ else _)=_;rw [cq (by omega),cy]
   cases w with
   |nil=>
    show ax (dw a) (d+1) (out,[],((i+1:Nat):Int))=_;rw [last];simp
   |cons x w=>
    show aG _ (ax (dw a) (d+1) (out++[x::w],[],((i+1:Nat):Int)))=_;rw [c,cJ,last];rfl
theorem alK(a:aB)(b:a.length<4294967296):jU a=some (wl a []):=by have:=S9 a b az 0 [] [] (by omega) (iK (by omega)) (by simp) (by simp);unfold jU;simpa using this
theorem ald(a:aB)(b:a.length<4294967296):Ae a=some (wl a []):=by unfold Ae ahc;rw [cp (by omega),cJ];rfl
def iW(s:aB):Int×Bool:=match aif s with
 |some n=>(n,true)
 |none=>(0,false)
theorem afN(b:UInt8):(b.toNat:Int)<256:=by have:=UInt8.toNat_lt b;omega
theorem p10:∀t:Nat,t<10->10^t<=1000000000:=by decide
theorem apx(t:Nat):10^(t+1)=10*10^t:=by rw [Nat.pow_succ];omega
theorem ajW(s:aB)(b:s.length<=9):∀(N t n:Nat),t<=s.length->s.length+1<=N+t->n<10^t->
  ax (Hb s) N ((n:Int),(t:Int))=some (match nI n (s.drop t) with
   |some m=>((m:Int),true)
   |none=>(0,false))
 |0,t,n,h1,h2,_=>by omega
 |N+1,t,n,h1,h2,h3=>by
  have hp:=p10 t (by omega);rw [j8];show (bif (decide ((t:Int)<(s.length:Int))) then _ else _)=_;by_cases a:t<s.length
  .have hb:=afN s[t];have hd:s.drop t=s[t]::s.drop (t+1):=dk a;rw [cp (by omega),c8,aij (by omega) (by omega),cJ];simp only [jc];rw [Wx,acT a,hd,nI];by_cases hc:48<=s[t].toNat/\s[t].toNat<=57
   .rw [hW hc,cq (by omega),cq (by omega),ql,cy,cJ];have d:IntKind.i64.wrap ((IntKind.i64.wrap (10*(n:Int)))+(IntKind.i64.wrap (u8.wrap ((s[t].toNat:Int)-48))))=((10*n+(s[t].toNat-48):Nat):Int):=by
     have c:u8.wrap ((s[t].toNat:Int)-48)=(s[t].toNat:Int)-48:=by show ((s[t].toNat:Int)-48)%256=_;omega
     rw [c,u7 (x:=(s[t].toNat:Int)-48) (by omega),u7 (x:=10*(n:Int)) (by omega),u7 (by omega)];omega
    rw [d,w1 (by omega),ajW s b N (t+1) _ (by omega) (by omega) (by rw [apx];omega)]
   .rw [gx hc];have:(decide ((s[t].toNat:Int)<48)||decide (57<(s[t].toNat:Int)))=true:=by rw [c9,kR,kR];omega
    rw [this,c8]
  .rw [cq (by omega),cy,de (by omega)];rfl
theorem ajZ(s:aB)(a:s.length<4294967296):w6 s=some (iW s):=by
 unfold w6 iW aif;simp only [jc];by_cases h:s.length<1\/9<s.length
 .rw [hW h];have:(decide ((s.length:Int)<1)||decide (9<(s.length:Int)))=true:=by rw [c9,kR,kR];omega
  rw [this];rfl
 .rw [gx h,cq (by omega),cq (by omega)];exact ajW s (by omega) az 0 0 (by omega) (iK (by omega)) (by decide)
theorem akj(s:aB)(b:s.length<4294967296):∀(N t n:Nat),t<=s.length->t<=9->s.length+1<=N+t->n<10^t->
  ax (pO s) N ((n:Int),(t:Int))=some (if 9<s.length then (0,false) else match nI n (s.drop t) with
   |some m=>((m:Int),decide (0<(s.length:Int)))
   |none=>(0,false))
 |0,t,n,h1,_,h2,_=>by omega
 |N+1,t,n,h1,h9,h2,h3=>by
  have hp:=p10 t (by omega);rw [j8];show (bif (decide ((t:Int)<(s.length:Int))) then _ else _)=_;by_cases a:t<s.length
  .have hb:=afN s[t];have hd:s.drop t=s[t]::s.drop (t+1):=dk a;rw [cp (by omega),c8,aij (by omega) (by omega),cJ];simp only [jc];rw [Wx,acT a,hd,nI];by_cases d:8<t
   .rw [cp (show (8:Int)<(t:Int) by omega),Bool.or_true,c8,hW (by omega)]
   .rw [cq (show ¬(8:Int)<(t:Int) by omega),Bool.or_false];by_cases hc:48<=s[t].toNat/\s[t].toNat<=57
    .rw [hW hc,cq (by omega),cq (by omega),ql,cy,cJ];have c:IntKind.i64.wrap ((IntKind.i64.wrap ((IntKind.i64.wrap (10*(n:Int)))+(IntKind.i64.wrap (s[t].toNat:Int))))-48)=((10*n+(s[t].toNat-48):Nat):Int):=by rw [u7 (x:=(s[t].toNat:Int)) (by omega),u7 (x:=10*(n:Int)) (by omega),u7 (x:=10*(n:Int)+(s[t].toNat:Int)) (by omega),u7 (by omega)];omega
     rw [c,w1 (by omega),akj s b N (t+1) _ (by omega) (by omega) (by omega) (by rw [apx];omega)]
    .rw [gx hc];have:(decide ((s[t].toNat:Int)<48)||decide (57<(s[t].toNat:Int)))=true:=by rw [c9,kR,kR];omega
     rw [this,c8];simp
  .rw [cq (by omega),cy,de (by omega),gx (by omega)];rfl
theorem ahM(s:aB)(a:s.length<4294967296):ju s=some (iW s):=by
 have:=akj s a az 0 0 (by omega) (by omega) (iK (by omega)) (by decide);unfold ju iW aif;rw [show ((0:Int),(0:Int))=(((0:Nat):Int),((0:Nat):Int)) from rfl,this,j6];congr 1;by_cases h:9<s.length
 .rw [hW h,hW (.inr h)]
 .rw [gx h];by_cases b:s.length<1
  .rw [hW (.inl b)];have:s=[]:=cf (by omega);subst this;rfl
  .rw [gx (by omega),cp (by omega)]
def eX(w:aB):Int:=if w=[112,108,97,105,110] then 0 else if w=[112,97,114,116,115] then 1 else if w=[116,114,101,101] then 2 else if w=[119,111,114,100,115] then 3 else if w=[108,111,115,115,121] then 4 else -1
theorem Mk(l:List aB)(w x:aB)(N t:Nat)(h:l[t]? =some x)(b:t<4611686018427387904):ax (gK l w) (N+1) (t:Int)=if w=x then some (t:Int) else ax (gK l w) N ((t+1:Nat):Int):=by
 obtain ⟨d,c⟩:=List.getElem?_eq_some_iff.1 h;rw [j8];show (bif (decide ((t:Int)<(l.length:Int))) then _ else _)=_;rw [cp (by omega),c8,rR d,c,bj,w1 b];by_cases a:w=x
 .rw [hW a,a,qb,c8]
 .rw [gx a,beq_eq_false_iff_ne.2 a,cy]
theorem alP(w:aB):cT lM w=some (eX w):=by
 unfold cT eX;obtain ⟨N,a⟩:∃N,az=N+1+1+1+1+1+1:=⟨18446744073709551610,rfl⟩;rw [a,show (0:Int)=((0:Nat):Int) from rfl,Mk lM w [112,108,97,105,110] _ 0 rfl (by omega),Mk lM w [112,97,114,116,115] _ 1 rfl (by omega),Mk lM w [116,114,101,101] _ 2 rfl (by omega),
  Mk lM w [119,111,114,100,115] _ 3 rfl (by omega),Mk lM w [108,111,115,115,121] _ 4 rfl (by omega)]
 repeat' split
 all_goals rfl
def fD:List aB->Option y5
 |[]=>some []
 |s::l=>if (iW s).2 then (fD l).map ((iW s).1:: ·) else none
abbrev amt:=(Int×Int×Int×Int×Int×Int)×Bool
def A9:amt:=((0,0,0,0,0,0),false)
def Bh(w:aB):Option y5->amt
 |some [a,b]=>if 0<=eX w/\eX w≠4 then ((eX w,a,b,0,0,0),true) else A9
 |some [a,b,c,d,e]=>if eX w=4 then ((4,a,b,u64.wrap e,c,d),true) else A9
 |_=>A9
def HM:List aB->amt
 |[]=>A9
 |w::l=>Bh w (fD l)
theorem MH:∀(l:List aB) (x:y5),fD l=some x->x.length=l.length
 |[],x,h=>by cases h;rfl
 |s::l,x,h=>by
  unfold fD at h;split at h
  .cases hx:fD l with
   |none=>rw [hx] at h;cases h
   |some y=>rw [hx] at h;cases h;simp [MH l y hx]
  .cases h
theorem amb(w:aB)(n:Int)(x:Option y5)(hx:∀y,x=some y->(y.length:Int)=n)(h:eX w<0\/n+1≠(if eX w=4 then 6 else 3)):Bh w x=A9:=by
 unfold Bh;split
 next a b=>have:=hx _ rfl;simp only [cx,et] at this;rw [gx];rintro ⟨f,g⟩;rw [gx g] at h;omega
 .rename_i a b c d e;have:=hx _ rfl;simp only [cx,et] at this;split
  next f=>rw [hW f] at h;omega
  .rfl
 .rfl
theorem RZ(w:aB)(l:List aB)(h:eX w<0\/(l.length+1:Int)≠(if eX w=4 then 6 else 3)):HM (w::l)=A9:=
 amb w l.length (fD l) (λy a=>by rw [MH l y a]) h
theorem akd(x:α)(l:List α):bD (x::l) 1 (((x::l).length:Nat):Int)=l:=by unfold bD;simp
def put(c:Int×Int×Int×Int×Int)(i:Nat)(x:Int):Int×Int×Int×Int×Int:=match i with
 |0=>(x,c.2.1,c.2.2.1,c.2.2.2.1,c.2.2.2.2)
 |1=>(c.1,x,c.2.2.1,c.2.2.2.1,c.2.2.2.2)
 |2=>(c.1,c.2.1,x,c.2.2.2.1,c.2.2.2.2)
 |3=>(c.1,c.2.1,c.2.2.1,x,c.2.2.2.2)
 |_=>(c.1,c.2.1,c.2.2.1,c.2.2.2.1,x)
theorem aqg(w:aB)(l:List aB)(k:Int)(b:∀s∈l,s.length<4294967296)(N i:Nat)(s:aB)(a:l[i]? =some s)(hi:i<5)(c:Int×Int×Int×Int×Int):
  ax (gb (w::l) k) (N+1) (c.1,c.2.1,c.2.2.1,c.2.2.2.1,c.2.2.2.2,(i:Int))=
   if (iW s).2 then ax (gb (w::l) k) N ((put c i (iW s).1).1,(put c i (iW s).1).2.1,(put c i (iW s).1).2.2.1,(put c i (iW s).1).2.2.2.1,(put c i (iW s).1).2.2.2.2,((i+1:Nat):Int)) else some A9:=by
 obtain ⟨e,d⟩:=List.getElem?_eq_some_iff.1 a;rw [j8];unfold gb;dsimp only;rw [akd,cp (by omega),c8,rR e,d,bj,ajZ s (b s (pa a)),bj];cases hv:(iW s).2 with
 |false=>rfl
 |true=>
  rw [rC,cy,hW rfl,w1 (by omega)]
  match i,hi with
  |0,_=>rfl
  |1,_=>rfl
  |2,_=>rfl
  |3,_=>rfl
  |4,_=>rfl
  |i+5,hi=>omega
theorem aqF(w:aB)(l:List aB)(k:Int)(N i:Nat)(hi:i=l.length)(c:Int×Int×Int×Int×Int):
  ax (gb (w::l) k) (N+1) (c.1,c.2.1,c.2.2.1,c.2.2.2.1,c.2.2.2.2,(i:Int))=some ((k,c.1,c.2.1,u64.wrap c.2.2.2.2,c.2.2.1,c.2.2.2.1),true):=by
 rw [j8];unfold gb;dsimp only;rw [akd,cq (by omega),cy]
def F6:y5->Nat->Int×Int×Int×Int×Int->Int×Int×Int×Int×Int
 |[],_,c=>c
 |x::l,i,c=>F6 l (i+1) (put c i x)
theorem ai7(w:aB)(l:List aB)(k:Int)(a:∀s∈l,s.length<4294967296)(b:l.length<=5):∀(N i:Nat) (c:Int×Int×Int×Int×Int),i<=l.length->l.length+1<=N+i->
  ax (gb (w::l) k) N (c.1,c.2.1,c.2.2.1,c.2.2.2.1,c.2.2.2.2,(i:Int))=some (match fD (l.drop i) with
   |some xs=>((k,(F6 xs i c).1,(F6 xs i c).2.1,u64.wrap (F6 xs i c).2.2.2.2,(F6 xs i c).2.2.1,(F6 xs i c).2.2.2.1),true)
   |none=>A9)
 |0,i,c,h1,h2=>by omega
 |N+1,i,c,h1,h2=>by
  by_cases hi:i<l.length
  .rw [aqg w l k a N i l[i] (b9 hi) (by omega) c,dk hi,fD];cases hv:(iW l[i]).2 with
   |false=>rfl
   |true=>
    rw [hW rfl,hW rfl,ai7 w l k a b N (i+1) (put c i (iW l[i]).1) (by omega) (by omega)];cases fD (l.drop (i+1)) <;> rfl
  .rw [aqF w l k N i (by omega) c,de (by omega)];rfl
theorem ahU(i:aB)(p:i.length<4294967296)(n:∀s∈wl i [],s.length<4294967296):fw i=some (HM (wl i [])):=by
 unfold fw;rw [ald i p,bj];generalize wl i []=r at n;cases r with
 |nil=>rfl
 |cons w l=>
  have m:(((w::l).length:Nat):Int)=(l.length:Int)+1:=by simp
  rw [show ((((w::l).length:Nat):Int)==0)=false by rw [qf];omega,cy,show idx (w::l) 0=some w from rfl,bj,alP,bj];simp only [jc];have key:∀g:Int,g=(if eX w=4 then 6 else 3)->ui (w::l) (eX w) g=some (HM (w::l)):=by
   intro g j;unfold ui;simp only [jc];by_cases hb:eX w<0\/(l.length+1:Int)≠g
   .rw [RZ w l (by rw [<-j];exact hb)];have:(decide (eX w<0)||(((w::l).length:Nat):Int) != g)=true:=by rw [c9,kR,bne_iff_ne,m];exact hb
    rw [this];rfl
   .have u:¬eX w<0:=λh=>hb (.inl h);have q:(l.length+1:Int)=g:=qU λh=>hb (.inr h);rw [cq u,show ((((w::l).length:Nat):Int) != g)=false by rw [bne_eq_false_iff_eq,m];exact q,Bool.or_false,cy,ajt (by omega) (by rw [m];omega) (by omega),cJ];have t:l.length<=5:=by split at j <;> omega
    have:=ai7 w l (eX w) (λs o=>n s (.tail _ o)) t az 0 (0,0,0,0,0) (by omega) (iK (by omega));refine Eq.trans this ?_;rw [j6];show _=some (Bh w (fD l));cases hx:fD l with
    |none=>rfl
    |some xs=>
     have f:=MH _ _ hx;by_cases k:eX w=4
     .rw [hW k] at j
      match xs,f with
      |[a,b,c,d,e],_=>show _=some (if eX w=4 then _ else _);rw [hW k,k];rfl
      |[],f|[_],f|[_,_],f|[_,_,_],f|[_,_,_,_],f|_::_::_::_::_::_::_,f=>simp at f;omega
     .rw [gx k] at j
      match xs,f with
      |[a,b],_=>show _=some (if 0<=eX w/\eX w≠4 then _ else _);rw [hW ⟨by omega,k⟩];rfl
      |[],f|[_],f|_::_::_::_,f=>simp at f;omega
  by_cases k:eX w=4
  .rw [k,qb,c8,<-k];exact key 6 (by rw [hW k])
  .rw [beq_eq_false_iff_ne.2 k,cy];exact key 3 (by rw [gx k])
end To
namespace To
open Go.Lib
theorem Sx(r:List aB)(ns:y5)(w x:aB)(N k:Nat)(f:idx r 0=some w)(g:k<4)(hx:([[112,108,97,105,110],[112,97,114,116,115],[116,114,101,101],[119,111,114,100,115]]:List aB)[k]? =some x):
  ax (dE r ns) (N+1) (k:Int)=if w=x/\r.length=3 then (idx ns 0).bind λa=>(idx ns 1).bind λb=>some (((k:Int),a,b,0,0,0),true) else ax (dE r ns) N ((k+1:Nat):Int):=by
 obtain ⟨e,d⟩:=List.getElem?_eq_some_iff.1 hx;rw [j8];unfold dE;simp only [jc];rw [cp (by omega),c8,f,bj,rR e,d,bj,w1 (by omega)];by_cases c:w=x/\r.length=3
 .rw [hW c,c.1,qb,c.2];rfl
 .rw [gx c];have:((w==x)&&((r.length:Int)==3))=false:=by
   rw [qO,qf,qf];by_cases h:w=x
   .exact .inr λi=>c ⟨h,by omega⟩
   .exact .inl h
  rw [this,cy]
theorem aqL(r:List aB)(ns:y5)(N:Nat):ax (dE r ns) (N+1) ((4:Nat):Int)=some A9:=by rw [j8];rfl
theorem aqw(w:aB)(l:List aB)(ns:y5):ax (dE (w::l) ns) az 0=if l.length=2/\0<=eX w/\eX w≠4 then (idx ns 0).bind λa=>(idx ns 1).bind λb=>some ((eX w,a,b,0,0,0),true) else some A9:=by
 obtain ⟨N,k⟩:∃N,az=N+1+1+1+1+1:=⟨18446744073709551611,rfl⟩;have c:idx (w::l) 0=some w:=rfl;have j:(w::l).length=3↔l.length=2:=by simp
 rw [k,show (0:Int)=((0:Nat):Int) from rfl,Sx _ ns w [112,108,97,105,110] _ 0 c (by omega) rfl,Sx _ ns w [112,97,114,116,115] _ 1 c (by omega) rfl,Sx _ ns w [116,114,101,101] _ 2 c (by omega) rfl,
  Sx _ ns w [119,111,114,100,115] _ 3 c (by omega) rfl,aqL]
 simp only [j];by_cases d:l.length=2
 .simp only [d,rX,true_and];unfold eX;by_cases i:w=[112,108,97,105,110]
  .subst i;rfl
  .by_cases h:w=[112,97,114,116,115]
   .subst h;rfl
   .by_cases g:w=[116,114,101,101]
    .subst g;rfl
    .by_cases f:w=[119,111,114,100,115]
     .subst f;rfl
     .by_cases e:w=[108,111,115,115,121]
      .subst e;rfl
      .simp [i,h,g,f,e]
 .simp [d]
theorem aqk(w:aB)(l:List aB)(ns:y5)(g:l.length=2\/l.length=5)(f:ns.length=l.length)(N i:Nat)(hi:i=l.length+1):
  ax (jE (w::l)) (N+1) (ns,(i:Int))=some (Bh w (some ns)):=by
 rw [j8];show (bif (decide ((i:Int)<(((w::l).length:Nat):Int))) then _ else _)=_;rw [cq (by simp only [cx];omega),cy,show idx (w::l) 0=some w from rfl,bj];simp only [jc];rw [aqw];rcases g with g|g
 .have:((((w::l).length:Nat):Int)==6)=false:=by rw [qf];simp only [cx];omega
  rw [this,Bool.and_false,cy]
  match ns,f with
  |[a,b],_=>
   show (if _ then some _ else _)=some (if 0<=eX w/\eX w≠4 then _ else _);by_cases h:0<=eX w/\eX w≠4
   .rw [hW h,hW ⟨g,h⟩]
   .rw [gx h,gx λj=>h j.2]
  |[],f|[_],f|_::_::_::_,f=>simp at f;omega
 .have:((((w::l).length:Nat):Int)==6)=true:=by rw [kN];simp only [cx];omega
  rw [this,Bool.and_true]
  match ns,f with
  |[a,b,c,d,e],_=>
   show _=some (if eX w=4 then _ else _);have k:(w==[108,111,115,115,121])=decide (eX w=4):=by
    rw [qE,kN,kR];unfold eX;constructor
    .intro h;subst h;rfl
    .intro h
     repeat' split at h
     all_goals first|omega|assumption
   rw [k];by_cases h:eX w=4
   .rw [cp h,c8,hW h];rfl
   .rw [cq h,cy,gx h,gx λj=>by omega]
  |[],f|[_],f|[_,_],f|[_,_,_],f|[_,_,_,_],f|_::_::_::_::_::_::_,f=>simp at f;omega
theorem agc(w:aB)(l:List aB)(b:l.length=2\/l.length=5)(a:∀s∈l,s.length<4294967296):∀(N i:Nat) (ns:y5),i<=l.length->ns.length=i->l.length+1<=N+i->
  ax (jE (w::l)) N (ns,((i+1:Nat):Int))=some (Bh w ((fD (l.drop i)).map (ns++ ·)))
 |0,i,ns,h1,h2,h3=>by omega
 |N+1,i,ns,h1,h2,h3=>by
  by_cases hi:i<l.length
  .rw [j8];show (bif (decide (((i+1:Nat):Int)<(((w::l).length:Nat):Int))) then _ else _)=_;rw [cp (by simp only [cx];omega),c8,rR (l:=w::l) (i:=i+1) (by simp only [cx];omega),List.getElem_cons_succ,bj,ahM _ (a _ (qo hi)),bj,
    dk hi,fD]
   cases hv:(iW l[i]).2 with
   |false=>rfl
   |true=>
    rw [rC,cy,Wu (by simp;omega) (by simp;omega),cJ,w1 (by omega),agc w l b a N (i+1) (ns++[(iW l[i]).1]) (by omega) (by simp;omega) (by omega),hW rfl,Option.map_map];congr 2;cases fD (l.drop (i+1)) with
    |none=>rfl
    |some x=>simp
  .have e:i=l.length:=by omega
   rw [aqk w l ns b (by omega) N (i+1) (by omega),de (by omega)];simp [fD]
theorem ae3(a:aB)(d:a.length<4294967296)(b:∀s∈wl a [],s.length<4294967296):fQ a=some (HM (wl a [])):=by
 unfold fQ;rw [alK a d,bj];generalize wl a []=r at b;simp only [jc];cases r with
 |nil=>rfl
 |cons w l=>
  by_cases e:l.length=2\/l.length=5
  .have:(((((w::l).length:Nat):Int) != 3)&&((((w::l).length:Nat):Int) != 6))=false:=by rw [qO,bne_eq_false_iff_eq,bne_eq_false_iff_eq];simp only [cx];omega
   rw [this,cy];have:=agc w l e (λs c=>b s (.tail _ c)) az 0 [] (by omega) rfl (iK (by omega));refine Eq.trans this ?_;show _=some (Bh w (fD l));rw [j6];cases fD l <;> rfl
  .have:(((((w::l).length:Nat):Int) != 3)&&((((w::l).length:Nat):Int) != 6))=true:=by rw [ae,bne_iff_ne,bne_iff_ne];simp only [cx];omega
   rw [this,c8,RZ w l]
   .rfl
   .right;split <;> omega
theorem aqQ:∀u:Nat,u<10->dp (u:Int) (u64.wrap ((u:Int)+1)) 10=true/\cut [48,49,50,51,52,53,54,55,56,57] (u:Int) (u64.wrap ((u:Int)+1))=[UInt8.ofNat (48+u)]:=by decide
theorem abJ:∀(N u:Nat),u<18446744073709551616->u<N->ax (λk (s:Int)=>dx k s) N (u:Int)=some (decDigits u)
 |0,u,_,h=>by omega
 |N+1,u,hb,h=>by
  rw [j8];have ih:∀v:Nat,v<18446744073709551616->v<N->ax (λk (s:Int)=>dx k s) N (v:Int)=some (decDigits v):=abJ N;generalize ax (λk (s:Int)=>dx k s) N=f at ih ⊢;show dx _ _=_;unfold dx;rw [decDigits];by_cases a:u<10
  .obtain ⟨d,c⟩:=aqQ u a;rw [cq (by omega),cy,dif_pos a];show aG (dp (u:Int) _ 10) _=_;rw [d,cJ,c]
  .rw [cp (by omega),c8,dif_neg a];have w1:u64.wrap (Int.tdiv (u:Int) 10)=((u/10:Nat):Int):=by rw [Int.tdiv_eq_ediv_of_nonneg (by omega)];show ((u:Int)/10)%18446744073709551616=_;omega
   have b:Int.tmod (u:Int) 10=((u%10:Nat):Int):=by rw [Int.tmod_eq_emod_of_nonneg (by omega)];omega
   have e:=nDigits_le20 (u/10) (by omega);rw [w1,b,ih (u/10) (by omega) (by omega),ih (u%10) (by omega) (by omega),bj,bj,decDigits_one (ti _ (by omega)),
    fe (by rw [decDigits_length];simp;omega),cJ]
theorem VF(n:Int)(c: -9223372036854775808<=n)(b:n<=9223372036854775807):dZ n=some (itoa n):=by
 unfold dZ itoa jo;by_cases h:n<0
 .have e:u64.wrap (0-u64.wrap n)=((n.natAbs:Nat):Int):=by show (0-n%18446744073709551616)%18446744073709551616=_;omega
  have a:=nDigits_le20 n.natAbs (by omega);rw [cp h,c8,hW h,e,abJ az n.natAbs (by omega) (by show _<18446744073709551616;omega),bj,fe (by rw [decDigits_length];simp;omega),cJ];rfl
 .have e:u64.wrap n=((n.toNat:Nat):Int):=by show n%18446744073709551616=_;omega
  rw [cq h,cy,gx h,e,abJ az n.toNat (by omega) (by show _<18446744073709551616;omega),bj]
def i64(n:Int):Prop:= -9223372036854775808<=n/\n<=9223372036854775807
theorem sx(n:Int)(h:i64 n):(itoa n).length<=21:=by
 obtain ⟨b,a⟩:=h;unfold itoa;split
 .have:=nDigits_le20 n.natAbs (by omega);simp only [cx,decDigits_length];omega
 .have:=nDigits_le20 n.toNat (by omega);rw [decDigits_length];omega
theorem alH(n:Int)(h:i64 n):Nx n=some (itoa n):=by unfold Nx;rw [show acN n=true from acp.2 h,cJ]
end To
namespace To
open Go.Lib
abbrev VT:=Int×Int×Int×y5×(w4×w4)
theorem aaQ(s:aB):∀l:y5,(∀n∈l,i64 n)->(fk s l).length<=s.length+l.length*22
 |[],_=>by simp [fk]
 |n::l,h=>by have c:=sx n (h n (b5 ..));have b:=aaQ s l λm a=>h m (.tail _ a);simp only [fk,ca,List.flatMap_cons,cx] at b ⊢;omega
theorem adg(l:y5)(c:∀n∈l,i64 n)(d:l.length<4294967296):∀(N t:Nat) (w:aB),t<=l.length->l.length+1<=N+t->w.length<=4294967296+t*22->
  ax (OY l) N (w,(t:Int))=some (w++((l.drop t).flatMap λn=>32::itoa n)++[10])
 |0,t,w,h1,h2,_=>by omega
 |N+1,t,w,h1,h2,h3=>by
  rw [j8];show (bif (decide ((t:Int)<(l.length:Int))) then _ else _)=_;by_cases a:t<l.length
  .have b:=c _ (qo a);have hi:=sx _ b;rw [cp (by omega),c8,rR a,bj,alH _ b,bj,fe (by simp;omega),cJ,fe (by simp;omega),cJ,w1 (by omega),
    adg l c d N (t+1) _ (by omega) (by omega) (by simp;omega),dk a,List.flatMap_cons]
   simp
  .rw [cq (by omega),cy,fe (by simp;omega),cJ,de (by omega)];simp
theorem MP(s:aB)(l:y5)(c:s.length<4294967296)(a:∀n∈l,i64 n)(b:l.length<4294967296):kL s l=some (fk s l++[10]):=by have:=adg l a b az 0 s (by omega) (iK (by omega)) (by omega);unfold kL fk;simpa using this
theorem Ys(l:y5)(c:∀n∈l,i64 n)(d:l.length<4294967296):∀(N t:Nat) (w:aB),t<=l.length->l.length+1<=N+t->w.length<=4294967296+t*22->
  ax (vk l) N (w,(t:Int))=some (w++((l.drop t).flatMap λn=>32::itoa n)++[10])
 |0,t,w,h1,h2,_=>by omega
 |N+1,t,w,h1,h2,h3=>by
  rw [j8];show (bif (decide ((t:Int)<(l.length:Int))) then _ else _)=_;by_cases a:t<l.length
  .have b:=c _ (qo a);have hi:=sx _ b;rw [cp (by omega),c8,fe (by simp;omega),cJ,rR a,bj,VF _ b.1 b.2,bj,fe (by simp;omega),cJ,w1 (by omega),
    Ys l c d N (t+1) _ (by omega) (by omega) (by simp;omega),dk a,List.flatMap_cons]
   simp
  .rw [cq (by omega),cy,fe (by simp;omega),cJ,de (by omega)];simp
theorem Wn(s:aB)(l:y5)(c:s.length<4294967296)(a:∀n∈l,i64 n)(b:l.length<4294967296):gC s l=some (fk s l++[10]):=by have:=Ys l a b az 0 s (by omega) (iK (by omega)) (by omega);unfold gC fk;simpa using this
def J(L:List aB):aB:=L.flatMap λw=>w++[10]
def ck(v:VT):aB:=if v.1=1 then [104,111,108,100,115] else if v.1=2 then [118,105,111,108,97,116,101,100] else if v.1=3 then [110,111,116,104,105,110,103] else fk [101,114,114,111,114] [v.2.1,v.2.2.1]
def wQ(v:VT):List aB:=if v.2.2.2.1=[] then [] else [fk [33] v.2.2.2.1]
def aax(v:VT):List aB:=ck v::(v.2.2.2.2.1.map (fk [45])++v.2.2.2.2.2.map (fk [111])++wQ v)
def few(l:w4):Prop:=l.length<=20/\∀x∈l,x.length<=40/\∀n∈x,i64 n
structure OkV(v:VT):Prop where
 e:i64 v.2.1
 a:i64 v.2.2.1
 st:v.2.2.2.1.length<=40/\∀n∈v.2.2.2.1,i64 n
 s:few v.2.2.2.2.1
 c:few v.2.2.2.2.2
theorem F9{s:aB}{x:y5}(h:x.length<=40/\∀n∈x,i64 n):(fk s x++[10]).length<=s.length+900:=by have:=aaQ s x h.2;simp only [ca,cx,et];omega
theorem xI(w:aB)(L:List aB):J (w::L)=w++[10]++J L:=rfl
section
variable {v : VT} (hv : OkV v)
include hv
theorem RS3:∀(N i:Nat) (out:aB),i<=v.2.2.2.2.2.length->v.2.2.2.2.2.length+1<=N+i->out.length<=1000000+i*1000->
  ax (s8 v) N (out,(i:Int))=some (out++J ((v.2.2.2.2.2.drop i).map (fk [111])++wQ v))
 |0,i,out,h1,h2,_=>by omega
 |N+1,i,out,h1,h2,h3=>by
  have f:=hv.c.1;rw [j8];show (bif (decide ((i:Int)<(v.2.2.2.2.2.length:Int))) then _ else _)=_;by_cases hi:i<v.2.2.2.2.2.length
  .have hx:=hv.c.2 _ (qo hi);have d:=F9 (s:=[111]) hx;rw [cp (by omega),c8,rR hi,bj,Wn _ _ (by decide) hx.2 (by omega),bj,fe (by simp only [cx,et] at d ⊢; omega),cJ,w1 (by omega),
    RS3 N (i+1) _ (by omega) (by omega) (by rw [ca];simp only [cx,et] at d;omega),dk hi,c5,eb,xI,aO]
  .rw [cq (by omega),cy,de (by omega),u9,mj];unfold wQ;have d:=F9 (s:=[33]) hv.st;cases e:v.2.2.2.1 with
   |nil=>simp [J]
   |cons a l=>
    rw [e] at d;have b:=hv.st;rw [e] at b;rw [cp (by simp),c8,Wn _ _ (by decide) b.2 (by omega),bj,fe (by simp only [cx,et] at d ⊢; omega),cJ,gx (by simp),xI];simp [J]
theorem RS2:∀(N i:Nat) (out:aB),i<=v.2.2.2.2.1.length->v.2.2.2.2.1.length+1<=N+i->out.length<=10000+i*1000->
  ax (sP v) N (out,(i:Int))=some (out++J ((v.2.2.2.2.1.drop i).map (fk [45])++(v.2.2.2.2.2.map (fk [111])++wQ v)))
 |0,i,out,h1,h2,_=>by omega
 |N+1,i,out,h1,h2,h3=>by
  have d:=hv.s.1;have b:=hv.c.1;rw [j8];show (bif (decide ((i:Int)<(v.2.2.2.2.1.length:Int))) then _ else _)=_;by_cases hi:i<v.2.2.2.2.1.length
  .have hx:=hv.s.2 _ (qo hi);have a:=F9 (s:=[45]) hx;rw [cp (by omega),c8,rR hi,bj,Wn _ _ (by decide) hx.2 (by omega),bj,fe (by simp only [cx,et] at a ⊢; omega),cJ,w1 (by omega),
    RS2 N (i+1) _ (by omega) (by omega) (by rw [ca];simp only [cx,et] at a;omega),dk hi,c5,eb,xI,aO]
  .rw [cq (by omega),cy,de (by omega),u9,mj];exact RS3 hv az 0 out (by omega) (iK (by omega)) (by omega)
theorem amw:ky v=some (J (aax v)):=by
 have f:=hv.s.1;have key:∀h:aB,h.length<=9000->lP v (h++[10])=some (J (h::(v.2.2.2.2.1.map (fk [45])++v.2.2.2.2.2.map (fk [111])++wQ v))):=λh g=>by unfold lP;have:=RS2 hv az 0 (h++[10]) (by omega) (iK (by omega)) (by rw [ca];simp only [cx,et];omega);refine Eq.trans this ?_;rw [j6,xI,aO (v.2.2.2.2.1.map _)]
 have j:=sx _ hv.e;have i:=sx _ hv.a;unfold ky aax ck;simp only [jc];by_cases d:v.1=1
 .rw [d,qb,c8,hW rfl];exact key [104,111,108,100,115] (by decide)
 .rw [beq_eq_false_iff_ne.2 d,cy,gx d];by_cases c:v.1=2
  .rw [c,qb,c8,hW rfl];exact key [118,105,111,108,97,116,101,100] (by decide)
  .rw [beq_eq_false_iff_ne.2 c,cy,gx c];by_cases b:v.1=3
   .rw [b,qb,c8,hW rfl];exact key [110,111,116,104,105,110,103] (by decide)
   .rw [beq_eq_false_iff_ne.2 b,cy,gx b,VF _ hv.e.1 hv.e.2,bj,VF _ hv.a.1 hv.a.2,bj,fe (by simp;omega),cJ,fe (by simp;omega),cJ,fe (by simp;omega),cJ,
     fe (by simp;omega),cJ]
    have:=key (fk [101,114,114,111,114] [v.2.1,v.2.2.1]) (by simp [fk];omega);refine Eq.trans ?_ this;congr 1;simp [fk]
end
end To
namespace To
open Go.Lib
theorem apP(x y:aB):ba (x++y)=ba x++ba y:=by simp [ba]
theorem ajw(x:aB):(ba x).length=x.length:=by simp [ba]
theorem akL(x:aB):strOf (ba x)=x:=by
 unfold strOf ba;rw [qY]
 conv=>rhs;rw [<-List.map_id x]
 exact qz λb _=>by simp
theorem copy_eq(a:Bool)(b:y5):fV a b=some true:=by cases a <;> rfl
theorem B3(s:aB)(a:Bool)(x:aB)(h:x.length+s.length<=1000000000):bK s a (ba x)=some ((s.length:Int),true,ba (x++s)):=by unfold bK;rw [copy_eq,bj,Wu (by rw [ajw];omega) (by rw [ajw];omega),cJ,apP]
theorem YY(a:Bool)(x:aB)(h:x≠[]):Bd a (ba x)=some x:=by
 unfold Bd ia;cases x with
 |nil=>exact absurd rfl h
 |cons b x=>
  rw [show idx (ba (b::x)) 0=some (b.toNat:Int) from rfl,bj,cp rfl,cp rfl,show (true&&true)=true from rfl,cJ,bj,akL]
section
variable {v : VT} (hv : OkV v)
include hv
theorem TS3:∀(N i:Nat) (a:Bool) (out:aB),i<=v.2.2.2.2.2.length->v.2.2.2.2.2.length+1<=N+i->out.length<=1000000+i*1000->out≠[]->
  ax (K0 v) N (a,ba out,(i:Int))=some (out++J ((v.2.2.2.2.2.drop i).map (fk [111])++wQ v))
 |0,i,a,out,h1,h2,_,_=>by omega
 |N+1,i,a,out,h1,h2,h3,h4=>by
  have g:=hv.c.1;rw [j8];show (bif (decide ((i:Int)<(v.2.2.2.2.2.length:Int))) then _ else _)=_;by_cases hi:i<v.2.2.2.2.2.length
  .have hx:=hv.c.2 _ (qo hi);have e:=F9 (s:=[111]) hx;rw [cp (by omega),c8,rR hi,bj,MP _ _ (by decide) hx.2 (by omega),bj,B3 _ _ _ (by simp only [cx,et] at e ⊢; omega),bj,w1 (by omega),
    TS3 N (i+1) _ _ (by omega) (by omega) (by rw [ca];simp only [cx,et] at e;omega) (by simp [h4]),dk hi,c5,eb,xI,aO]
  .rw [cq (by omega),cy,de (by omega),u9,mj];simp only [jc];unfold wQ;have e:=F9 (s:=[33]) hv.st;cases f:v.2.2.2.1 with
   |nil=>
    rw [cq (by simp),cy,YY _ _ h4];simp [J]
   |cons b l=>
    rw [f] at e;have d:=hv.st;rw [f] at d;rw [cp (by simp),c8,MP _ _ (by decide) d.2 (by omega),bj,B3 _ _ _ (by simp only [cx,et] at e ⊢; omega),bj,YY _ _ (by simp [h4]),gx (by simp),xI];simp [J]
theorem TS2:∀(N i:Nat) (a:Bool) (out:aB),i<=v.2.2.2.2.1.length->v.2.2.2.2.1.length+1<=N+i->out.length<=10000+i*1000->out≠[]->
  ax (Mo v) N (a,ba out,(i:Int))=some (out++J ((v.2.2.2.2.1.drop i).map (fk [45])++(v.2.2.2.2.2.map (fk [111])++wQ v)))
 |0,i,a,out,h1,h2,_,_=>by omega
 |N+1,i,a,out,h1,h2,h3,h4=>by
  have e:=hv.s.1;have d:=hv.c.1;rw [j8];show (bif (decide ((i:Int)<(v.2.2.2.2.1.length:Int))) then _ else _)=_;by_cases hi:i<v.2.2.2.2.1.length
  .have hx:=hv.s.2 _ (qo hi);have b:=F9 (s:=[45]) hx;rw [cp (by omega),c8,rR hi,bj,MP _ _ (by decide) hx.2 (by omega),bj,B3 _ _ _ (by simp only [cx,et] at b ⊢; omega),bj,w1 (by omega),
    TS2 N (i+1) _ _ (by omega) (by omega) (by rw [ca];simp only [cx,et] at b;omega) (by simp [h4]),dk hi,c5,eb,xI,aO]
  .rw [cq (by omega),cy,de (by omega),u9,mj];exact TS3 hv az 0 a out (by omega) (iK (by omega)) (by omega) h4
theorem anT:sT v=some (J (aax v)):=by
 have j:=hv.s.1;have key:∀(a:Bool) (h:aB),h.length<=9000->u5 v a (ba ([]++(h++[10])))=some (J (h::(v.2.2.2.2.1.map (fk [45])++v.2.2.2.2.2.map (fk [111])++wQ v))):=λa h m=>by unfold u5;have:=TS2 hv az 0 a (h++[10]) (by omega) (iK (by omega)) (by rw [ca];simp only [cx,et];omega) (by simp);refine Eq.trans this ?_;rw [j6,xI,aO (v.2.2.2.2.1.map _)]
 have p:=sx _ hv.e;have o:=sx _ hv.a;have b:∀w:aB,fk w []=w:=λw=>by simp [fk]
 unfold sT aax ck;simp only [jc];by_cases h:0<v.1/\v.1<4
 .rw [cp h.1,cp h.2,Bool.and_true,c8];have hc:v.1=1\/v.1=2\/v.1=3:=by omega
  have c:∀w:aB,w.length<1000->((kL w []).bind λg=>(bK g false []).bind λd=>u5 v d.2.1 d.2.2)=some (J (w::(v.2.2.2.2.1.map (fk [45])++v.2.2.2.2.2.map (fk [111])++wQ v))):=λw k=>by rw [MP w [] (by omega) (λn f=>by cases f) (by decide),bj,b];have:=B3 (w++[10]) false [] (by simp;omega);rw [show ba []=[] from rfl] at this;rw [this,bj];exact key true w (by omega)
  rcases hc with i|i|i <;> rw [i]
  .exact c [104,111,108,100,115] (by decide)
  .exact c [118,105,111,108,97,116,101,100] (by decide)
  .exact c [110,111,116,104,105,110,103] (by decide)
 .have:(decide (0<v.1)&&decide (v.1<4))=false:=by rw [qO,qJ,qJ];omega
  rw [this,cy,gx (by omega),gx (by omega),gx (by omega),show idx ko 0=some [101,114,114,111,114] from rfl,bj,
   MP _ _ (by decide) (λn f=>by
    rcases List.mem_cons.1 f with rfl|f
    .exact hv.e
    .rw [List.mem_singleton.1 f];exact hv.a) (by simp),bj]
  have l:(fk [101,114,114,111,114] [v.2.1,v.2.2.1]).length<=100:=by simp [fk];omega
  have:=B3 (fk [101,114,114,111,114] [v.2.1,v.2.2.1]++[10]) false [] (by rw [ca];simp only [cx,et];omega);rw [show ba []=[] from rfl] at this;rw [this,bj];exact key true _ (by omega)
end
theorem LQ:∀(l cur:aB),∀w∈wl l cur,w.length<=cur.length+l.length
 |[],cur,w,a=>by
  rw [wl] at a;split at a
  .cases a
  .rw [List.mem_singleton.1 a];simp
 |b::l,cur,w,a=>by
  rw [wl] at a;split at a
  .split at a
   .have:=LQ l [] w a;simp at this ⊢; omega
   .rcases List.mem_cons.1 a with rfl|a
    .simp
    .have:=LQ l [] w a;simp at this ⊢; omega
  .have:=LQ l _ w a;simp at this ⊢; omega
theorem aaK(a:aB)(c:a.length<4294967296):fw a=some (HM (wl a [])):=ahU a c λs b=>by have:=LQ a [] s b;simp at this;omega
theorem ao0(a:aB)(c:a.length<4294967296):fQ a=some (HM (wl a [])):=ae3 a c λs b=>by have:=LQ a [] s b;simp at this;omega
end To
namespace To
theorem aos:np=some true:=by kernel_rfl
end To
namespace To
open Go.Lib
def MJ(l:w4):Bool:=l.all λx=>decide (x.length<=40)
theorem F2(l:w4×w4)(h:l.2.length<=20):∀(N i:Nat),i<=l.2.length->l.2.length+1<=N+i->ax (tW l) N (i:Int)=some (MJ (l.2.drop i))
 |0,i,h1,h2=>by omega
 |N+1,i,h1,h2=>by
  rw [j8];show (bif (decide ((i:Int)<(l.2.length:Int))) then _ else _)=_;by_cases hi:i<l.2.length
  .rw [cp (by omega),c8,rR hi,bj,dk hi,w1 (by omega),F2 l h N (i+1) (by omega) (by omega)];unfold MJ;rw [qy];by_cases hx:(l.2[i]).length<=40
   .rw [cq (by omega),cy,cp hx,qk]
   .rw [cp (by omega),c8,cq hx,vy]
  .rw [cq (by omega),cy,de (by omega)];rfl
theorem F1(l:w4×w4)(h:l.1.length<=20)(a:l.2.length<=20):∀(N i:Nat),i<=l.1.length->l.1.length+1<=N+i->ax (uW l) N (i:Int)=some (MJ (l.1.drop i)&&MJ l.2)
 |0,i,h1,h2=>by omega
 |N+1,i,h1,h2=>by
  rw [j8];show (bif (decide ((i:Int)<(l.1.length:Int))) then _ else _)=_;by_cases hi:i<l.1.length
  .rw [cp (by omega),c8,rR hi,bj,dk hi,w1 (by omega),F1 l h a N (i+1) (by omega) (by omega)];unfold MJ;rw [qy];by_cases hx:(l.1[i]).length<=40
   .rw [cq (by omega),cy,cp hx,qk]
   .rw [cp (by omega),c8,cq hx,vy,vy]
  .rw [cq (by omega),cy,de (by omega)];have:=F2 l a az 0 (by omega) (iK (by omega));rw [j6] at this;refine Eq.trans this ?_;rfl
def adM(l:w4×w4):Bool:=decide (l.1.length<=20)&&decide (l.2.length<=20)&&(MJ l.1&&MJ l.2)
theorem apt(l:w4×w4):lu l 20=some (adM l):=by
 unfold lu adM;simp only [jc];by_cases b:l.1.length<=20
 .by_cases a:l.2.length<=20
  .rw [cq (by omega),cq (by omega),Bool.or_false,cy,cp b,cp a];have:=F1 l b a az 0 (by omega) (iK (by omega));rw [j6] at this;exact this
  .rw [cp (show (20:Int)<(l.2.length:Int) by omega),Bool.or_true,c8,cq a,Bool.and_false];rfl
 .rw [cp (show (20:Int)<(l.1.length:Int) by omega),tt,c8,cq b];rfl
structure ak8(v:VT):Prop where
 e:i64 v.2.1
 a:i64 v.2.2.1
 st:∀n∈v.2.2.2.1,i64 n
 s:∀x∈v.2.2.2.2.1,∀n∈x,i64 n
 c:∀x∈v.2.2.2.2.2,∀n∈x,i64 n
theorem okv{v:VT}(hi:ak8 v)(b:adM v.2.2.2.2=true)(d:¬(40:Int)<(v.2.2.2.1.length:Int)):OkV v:=by unfold adM MJ at b;simp only [ae,kR,qB] at b;exact ⟨hi.e,hi.a,⟨by omega,hi.st⟩,⟨b.1.1,λx hx=>⟨b.2.1 x hx,hi.s x hx⟩⟩,⟨b.1.2,λx hx=>⟨b.2.2 x hx,hi.c x hx⟩⟩⟩
theorem ahy(a:aB)(v:VT)(hi:ak8 v):gM a v=some true:=by
 unfold gM;rw [aos,bj];simp only [jc];by_cases c:(300:Int)<(a.length:Int)
 .rw [cp c,rC,am3,tt,tt,c8]
 .rw [cq c,Bool.not_false,Rz,apt,bj,ql];cases d:adM v.2.2.2.2 with
  |false=>rw [Bool.not_false,tt,c8]
  |true=>
   rw [rC,ql];by_cases b:(40:Int)<(v.2.2.2.1.length:Int)
   .rw [cp b,c8]
   .have hv:=okv hi d b;rw [cq b,cy,aaK a (by omega),bj,ao0 a (by omega),bj];generalize HM (wl a [])=o;rw [show aaq o.1.1 o.1.2.1 o.1.2.2.1 o.1.2.2.2.1 o.1.2.2.2.2.1 o.1.2.2.2.2.2 o.1.1 o.1.2.1 o.1.2.2.1 o.1.2.2.2.1 o.1.2.2.2.2.1 o.1.2.2.2.2.2=true by unfold aaq;simp only [qb,Bool.and_true],qb,
     qk,qk,Rz,anT hv,bj,Rz,amw hv,bj,qb]
    rfl
theorem acb{s:aB}(a:(iW s).2=false):∀l:List aB,fD (l++[s])=none
 |[]=>by simp [fD,a]
 |x::l=>by rw [eb,fD,acb a l];split <;> rfl
theorem alp(a s:aB)(hb:nb s)(b:s≠[])(c:(iW s).2=false)(d:eX s= -1):HM (wl (a++32::s) [])=A9:=by
 rw [Nl,ai0 hb b];cases wl a [] with
 |nil=>exact RZ s [] (.inl (by rw [d];decide))
 |cons w l=>show Bh w (fD (l++[s]))=A9;rw [acb c l];rfl
end To
namespace To
open Go.Lib
theorem ajB(u:Nat):nb (decDigits u):=λb hb e=>by subst e;have:=(aoF u _ hb).1;simp at this
theorem Mb(a b:Nat)(c:0<b):Int.tmod (a:Int) (b:Int)=((a%b:Nat):Int):=by rw [Int.tmod_eq_emod_of_nonneg (by omega)];omega
theorem aqR(x:Nat)(h:x<9223372036854775808):dZ (x:Int)=some (decDigits x):=by rw [VF _ (by omega) (by omega)];unfold itoa;rw [gx (by omega),qw]
theorem akT(x:Nat)(h:x<1000000000):(decDigits x).length<=9:=by
 rw [decDigits_length];have key:∀(k u:Nat),u<10^(k+1)->nDigits u<=k+1:=by
  intro k
  induction k with
  |zero=>intro u a;rw [nDigits,dif_pos (by omega)];omega
  |succ k ih=>
   intro u a;rw [nDigits];split
   .omega
   .have:u/10<10^(k+1):=by rw [Nat.div_lt_iff_lt_mul (by omega)];rw [Nat.pow_succ] at a;exact a
    have:=ih _ this;omega
 exact key 8 x h
theorem acj(k x:Nat)(h:k+(decDigits x).length<=9):iW (List.replicate k 48++decDigits x)=((x:Int),true):=by have hp:0<(decDigits x).length:=List.length_pos_iff.2 (abl x);unfold iW aif;rw [gx (by rw [ca,List.length_replicate];omega),aiP,amp]
def ws(s t:aB)(k:Nat):List aB:=(List.range k).map λj=>if j%2=0 then s else t
def xs(x y:Int)(k:Nat):y5:=(List.range k).map λj=>if j%2=0 then x else y
theorem aco{α:Type}(f:α->aB)(g:α->Int)(h:∀j,iW (f j)=(g j,true)):∀l:List α,fD (l.map f)=some (l.map g)
 |[]=>rfl
 |a::l=>by rw [c5,fD,aco f g h l,h a];rfl
theorem an9{s t:aB}{x y:Int}(b:iW s=(x,true))(a:iW t=(y,true))(k:Nat):fD (ws s t k)=some (xs x y k):=
 aco _ _ (λj=>by by_cases h:j%2=0 <;> simp only [h,qt,qI,b,a]) _
theorem are(s t:aB)(k:Nat):ws s t (k+1)=ws s t k++[if k%2=0 then s else t]:=by unfold ws;rw [List.range_succ,qV];rfl
theorem alO(x y:Int):∀k:Nat,k<8->Bh [116,114,101,101] (some (xs x y k))=if k=2 then ((2,x,y,0,0,0),true) else A9
 |0,_|1,_|2,_|3,_|4,_|5,_|6,_|7,_=>rfl
 |k+8,h=>by omega
theorem akk(x y:Int):∀k:Nat,k<8->Bh [108,111,115,115,121] (some (xs x y k))=if k=5 then ((4,x,y,u64.wrap x,x,y),true) else A9
 |0,_|1,_|2,_|3,_|4,_|5,_|6,_|7,_=>rfl
 |k+8,h=>by omega
section
variable {a b c d : Nat} {lossy : Bool} (ha : a < 4294967296) (hb : b < 4294967296) (hc : c < 256) (hd : d < 256)
include ha hb hc hd
omit hc in
theorem N3(s w:aB)(g:Int)(u:iW s=(((a%1000000000:Nat):Int),true))(n:nb s)(l:s≠[])(m:s.length<=9)
  (r:(w,g)=if lossy then ([108,111,115,115,121],(5:Int)) else ([116,114,101,101],2)):∀(N i:Nat) (f:aB),i<=d%8->d%8+1<=N+i->f.length<=10+i*20->
  wl f []=w::ws s (decDigits (b%1000000000)) i->ax (gV ((a:Int),(b:Int),(c:Int),(d:Int),lossy) true s g) N (f,(i:Int))=some true
 |0,i,f,h1,h2,_,_=>by omega
 |N+1,i,f,h1,h2,h3,h4=>by
  have B:Int.tmod (IntKind.i64.wrap (a:Int)) 1000000000=((a%1000000000:Nat):Int):=by rw [u7 (by omega)];exact Mb a 1000000000 (by omega)
  have v:Int.tmod (IntKind.i64.wrap (b:Int)) 1000000000=((b%1000000000:Nat):Int):=by rw [u7 (by omega)];exact Mb b 1000000000 (by omega)
  have A:Int.tmod (IntKind.i64.wrap (d:Int)) 8=((d%8:Nat):Int):=by rw [u7 (by omega)];exact Mb d 8 (by omega)
  have C:Int.tmod (i:Int) 2=((i%2:Nat):Int):=Mb i 2 (by omega);have p:=akT (b%1000000000) (ti _ (by omega));have k:=acj 0 (b%1000000000) (by omega);rw [List.replicate_zero,mj] at k;rw [j8];show (bif (decide ((i:Int)<Int.tmod (IntKind.i64.wrap (d:Int)) 8)) then _ else _)=_;rw [A];have h:∀q:aB,nb q->q≠[]->q.length<=9->q=(if i%2=0 then s else decDigits (b%1000000000))->i<d%8->
    ax (gV ((a:Int),(b:Int),(c:Int),(d:Int),lossy) true s g) N (((f++[32])++q),((i+1:Nat):Int))=some true:=λq y t x z hi=>by
   refine N3 s w g u n l m r N (i+1) _ (by omega) (by omega) (by simp;omega) ?_;rw [aO,qh,Nl,h4,ai0 y t,are,<-z];rfl
  by_cases hi:i<d%8
  .rw [cp (by omega),c8,C,w1 (by omega)];by_cases hp:i%2=0
   .rw [hp,show ((((0:Nat):Int))==0)=true from rfl,c8,fe (by simp;omega),cJ,fe (by simp;omega),cJ];exact h s n l m (by rw [hW hp]) hi
   .rw [show (((i%2:Nat):Int)==0)=false by rw [qf];omega,cy,fe (by simp;omega),cJ];rw [show Int.tmod (IntKind.i64.wrap ((a:Int),(b:Int),(c:Int),(d:Int),lossy).2.1) 1000000000=((b%1000000000:Nat):Int) from v,aqR _ (by omega),bj,fe (by simp;omega),cJ];exact h _ (ajB _) (abl _) p (by rw [gx hp]) hi
  .have o:i=d%8:=by omega
   rw [cq (by omega),cy,aaK f (by omega),bj,fe (by simp;omega),cJ,
    show f++([32,49,50,51,52,53,54,55,56,57,48]:aB)=f++32::[49,50,51,52,53,54,55,56,57,48] from rfl,aaK _ (by simp;omega),bj,
    alp f [49,50,51,52,53,54,55,56,57,48] (by intro b hb e;subst e;revert hb;decide) (by decide) (by decide) (by decide),h4]
   simp only [jc];rw [show HM (w::ws s (decDigits (b%1000000000)) i)=Bh w (fD (ws s (decDigits (b%1000000000)) i)) from rfl,an9 u k,show A9.2=false from rfl];simp only [B,v];cases lossy with
   |true=>
    obtain ⟨rfl,rfl⟩:w=[108,111,115,115,121]/\g=5:=by simpa using r
    rw [akk _ _ i (by omega)];by_cases j:i=5
    .rw [hW j,<-o,j];simp
    .rw [gx j,<-o,show (((i:Nat):Int)==5)=false by rw [qf];omega];rfl
   |false=>
    obtain ⟨rfl,rfl⟩:w=[116,114,101,101]/\g=2:=by simpa using r
    rw [alO _ _ i (by omega)];by_cases j:i=2
    .rw [hW j,<-o,j];simp
    .rw [gx j,<-o,show (((i:Nat):Int)==2)=false by rw [qf];omega];rfl
theorem N1:∀(N i k:Nat),i<=9->10<=N+i->k+(decDigits (a%1000000000)).length<=9->
  ax (gW ((a:Int),(b:Int),(c:Int),(d:Int),lossy) true) N (List.replicate k 48++decDigits (a%1000000000),(i:Int))=some true
 |0,i,k,h1,h2,_=>by omega
 |N+1,i,k,h1,h2,h3=>by
  have n:Int.tmod (IntKind.i64.wrap (c:Int)) 9=((c%9:Nat):Int):=by rw [u7 (by omega)];exact Mb c 9 (by omega)
  have ih:=N1 N (i+1) (k+1);rw [j8];generalize ax (gW ((a:Int),(b:Int),(c:Int),(d:Int),lossy) true) N=f at ih ⊢;unfold gW;simp only [jc];rw [n];by_cases hi:i<c%9/\k+(decDigits (a%1000000000)).length<9
  .rw [cp (by omega),cp (by simp;omega),Bool.and_true,c8,fe (by simp;omega),cJ,w1 (by omega)];have:=ih (by omega) (by omega) (by omega);rw [qm,eb] at this;exact this
  .have:(decide ((i:Int)<((c%9:Nat):Int))&&decide (((List.replicate k 48++decDigits (a%1000000000)).length:Int)<9))=false:=by rw [qO,qJ,qJ];simp only [ca,List.length_replicate];omega
   rw [this,cy];have j:nb (List.replicate k 48++decDigits (a%1000000000)):=λb hb=>by
    rcases List.mem_append.1 hb with hb|hb
    .rw [(List.mem_replicate.1 hb).2];decide
    .exact ajB _ b hb
   have g:∀(w:aB) (e:Int),((w,e)=if lossy then ([108,111,115,115,121],(5:Int)) else ([116,114,101,101],2))->w.length<=10->wl w []=[w]->gX ((a:Int),(b:Int),(c:Int),(d:Int),lossy) true (List.replicate k 48++decDigits (a%1000000000)) w e=some true:=λw e m l h=>by unfold gX;exact N3 ha hb hd _ w e (acj k _ h3) j (by simp [abl]) (by simp;omega) m az 0 w (by omega) (iK (by omega)) (by omega) (by rw [h];rfl)
   cases lossy with
   |true=>exact g [108,111,115,115,121] 5 rfl (by decide) (by decide)
   |false=>exact g [116,114,101,101] 2 rfl (by decide) (by decide)
end
end To
namespace To
open Go.Lib
abbrev Jk(p:UInt8×y5):aB:=fk [p.1] p.2
section
variable {v : VT} (hv : OkV v)
include hv
end
end To
variable {P : Program} {w : World}
open Go.Lib Go.ChangeAt Go.ChangeShapes Go.WideShapes Go.RowKit
theorem Wk{P:Program}{w:World}:∀(l:List (String×DataW Unit)) (ps:List MemPlace),DataW.LaidVars P w l ps->∀(i:Nat) (n:String) (d:DataW Unit),l[i]? =some (n,d)->
  ∃g t cs a p,P.globalNamed n=some g/\(P.globals[g]?).map (·.type)=some t/\w.var? P n=some cs/\DataW.trod (λ_=>()) P w 0 (λ_=>true) false a t cs.toList=some (d,p)
 |[],_,_,i,n,d,h=>by simp at h
 |(n0,d0)::l,ps,h,i,n,d,hi=>by
  obtain ⟨g,t,cs,a,p,q,j,f,e,c,b,_⟩:=h;cases i with
  |zero=>
   simp only [eF,b8,p0] at hi;obtain ⟨rfl,rfl⟩:=hi;exact ⟨g,t,cs,a,p,j,f,e,c⟩
  |succ i=>exact Wk l q b i n d (by simpa using hi)
theorem Zu{H:Type}{enc:TypeId×Value->H}{f:Nat}{q:Nat->Bool}{d:Bool}{a:Nat}{t e:TypeId}{n:Nat}{cs:xu}{zs:List aB}{p:List MemPlace}
  (u:P.underlying t=some (.array n e)) (x:P.underlying e=some .string) (l:P.cellsOf e=1) (k:P.cellsOf t=n)
  (h:DataW.trod enc P w f q d a t cs=some (.agg (zs.map λz=> .lit (.string z)),p)):cs=zs.map S:=by
 cases a with
 |zero=>simp [DataW.trod] at h
 |succ a=>
  simp only [DataW.trod,u,l,k,q9] at h;split at h
  .rename_i B;obtain ⟨xs,o,hx⟩:=Option.map_eq_some_iff.1 h;have c:xs.map (·.1)=zs.map λz=>(DataW.lit (.string z):DataW H):=by have:=congrArg Prod.fst hx;simpa using this
   have s:xs.length=n:=by simpa using mapM_length o
   have r:zs.length=n:=by have:=congrArg List.length c;simp at this;omega
   apply qv;intro i;by_cases hi:i<n
   .obtain ⟨b,hb,v⟩:=mapM_at o i i (by simp [hi]);obtain ⟨z,hc,rfl,_⟩:=DataW.trod_string x v;have y:cs[i]? =some (.string z):=by have:=congrArg (·[0]?) hc;simpa [l5,j5] using this
    have m:(xs.map (·.1))[i]? =some (DataW.lit (.string z.data.toList):DataW H):=by simp [hb]
    rw [c] at m;simp only [n9,Option.map_eq_some_iff,DataW.lit.injEq,Lit.string.injEq] at m;obtain ⟨A,j,g⟩:=m;subst g;simp [y,j,S]
   .rw [lk (by omega),lk (by simp;omega)]
  .cases h
theorem agu{a:List (String×DataW Unit)}(b:(a.filter λx=>x.2.handleName?.isSome)=[])(h:laidMetH P a w):laidMet P a w:=by unfold laidMetH at h;rw [b] at h;exact h
theorem Ni{a:List (String×DataW Unit)}{Γ:Ctx}(h:laidMet P a w)(i:Nat){n:String}{zs:List aB}{g:Nat}{t e:TypeId}{k:Nat}
  (hi:a[i]? =some (n,.agg (zs.map λz=> .lit (.string z)))) (m:P.globalNamed n=some g) (b:(P.globals[g]?).map (·.type)=some t)
  (q:P.underlying t=some (.array k e)) (s:P.underlying e=some .string) (l:P.cellsOf e=1) (j:P.cellsOf t=k) (u:¬ Γ.M g):(gl g (zs.map S)).P Γ.M w:=by
 obtain ⟨ps,r,_⟩:=h;obtain ⟨g',t',cs,o,p,f,d,hv,hd⟩:=Wk _ _ r i n _ hi;obtain rfl:=p8 (m.symm.trans f);obtain rfl:=p8 (b.symm.trans d);have v:=Zu q s l j hd;refine ⟨u,?_⟩;unfold World.var? at hv;rw [m] at hv;simp only [bj] at hv;split at hv
 next c ty fr hb=>obtain rfl:=p8 hv;exact ⟨ty,fr,by rw [hb,<-v]⟩
 .cases hv
theorem ao6{a:List (String×DataW Unit)}{Γ:Ctx}(h:laidMet P a w)(i:Nat){n:String}{kd:IntKind}{zs:y5}{g:Nat}{t e:TypeId}{k:Nat}
  (hi:a[i]? =some (n,tabData kd zs)) (m:P.globalNamed n=some g) (b:(P.globals[g]?).map (·.type)=some t)
  (q:P.underlying t=some (.array k e)) (s:P.underlying e=some (.int kd)) (l:P.cellsOf e=1) (j:P.cellsOf t=k) (u:¬ Γ.M g):(gl g (zs.map (Value.int kd))).P Γ.M w:=by
 obtain ⟨ps,r,_⟩:=h;obtain ⟨g',t',cs,o,p,f,d,hv,hd⟩:=Wk _ _ r i n _ hi;obtain rfl:=p8 (m.symm.trans f);obtain rfl:=p8 (b.symm.trans d);have v:=cells_of_tab q s l j hd;refine ⟨u,?_⟩;unfold World.var? at hv;rw [m] at hv;simp only [bj] at hv;split at hv
 next c ty fr hb=>obtain rfl:=p8 hv;exact ⟨ty,fr,by rw [hb,<-v]⟩
 .cases hv
def GL(Γ:Ctx):Prop:= ∀b,¬ Γ.M b
theorem afQ:GL []:=λb h=>by obtain ⟨it,h,_⟩:=h;cases h
theorem sg{it:Item}{Γ:Ctx}(hp:it.own=[])(h:GL Γ):GL (it::Γ):=λb hb=>by
 rcases Ctx.BY.1 hb with a|a
 .rw [hp] at a;cases a
 .exact h b a
theorem akg(w:World):Sat [kept w (λ_=>False)] w:=Sat.nil.add rfl ⟨fO.refl w,bb _,λb _ _=>⟨afQ b,rfl⟩⟩
theorem akf(w:World):GL [kept w (λ_=>False)]:=sg rfl afQ
theorem amI{Γ:Ctx}(h:GL Γ):Mv (λ_=>False) w Γ.M w:=⟨bb _,λb _ _=>⟨h b,rfl⟩⟩
theorem ai3{w':World}{Γ:Ctx}(h:Sat Γ w')(hi:Γ[i]? =some (kept w (λ_=>False))):Below w.heap.size w w':=by obtain ⟨a,d,c⟩:=h.kept hi;exact ⟨a.os,a.tape,a.output,d,λk b=>(c k b (λh=>h)).2⟩
theorem Vv{Y:Type}(R:Nat->Y->Ex->Prop):∀(ys:List Y),(∀i y,ys[i]? =some y->∃e,R i y e)->∃l:List Ex,l.length=ys.length/\∀i y e,ys[i]? =some y->l[i]? =some e->R i y e
 |[],_=>⟨[],rfl,λi y e h=>by simp at h⟩
 |y::ys,h=>by
  obtain ⟨e,f⟩:=h 0 y rfl;obtain ⟨l,d,c⟩:=Vv (λi=>R (i+1)) ys (λi y a=>h (i+1) y (by simpa using a));refine ⟨e::l,by simp [d],λi b e' a hx=>?_⟩;cases i with
  |zero=>
   simp only [eF,b8] at a hx;subst a;subst hx;exact f
  |succ i=>exact c i b e' (by simpa using a) (by simpa using hx)
theorem aiX{H:Type}:∀(l:List Ex) (ds:List (DataW H)),l.length=ds.length->(∀(i:Nat) (e:Ex) (d:DataW H),l[i]? =some e->ds[i]? =some d->e.sz<=Rows.uptoBulk d)->szL l<=Rows.uptoBulkAll ds
 |[],[],_,_=>bb _
 |e::l,d::ds,hl,h=>by
  have c:=h 0 e d rfl rfl;have b:=aiX l ds (by simpa using hl) (λi e d a hd=>h (i+1) e d (by simpa using a) (by simpa using hd));simp only [szL,Rows.uptoBulkAll];omega
 |[],_::_,h,_=>by simp at h
 |_::_,[],h,_=>by simp at h
theorem Qz{H:Type}(d:DataW H):1<=Rows.uptoBulk d:=by
 cases d with
 |lit l=>cases l <;> simp [Rows.uptoBulk]
 |nil=>simp [Rows.uptoBulk]
 |ptr d=>simp [Rows.uptoBulk]
 |slice e b=>simp [Rows.uptoBulk]
 |agg c=>simp [Rows.uptoBulk]
 |iface t d=>simp [Rows.uptoBulk]
 |map a=>simp [Rows.uptoBulk]
 |held h=>simp [Rows.uptoBulk]
theorem DB{H:Type}{d:DataW H}:∀{l:List (DataW H)},d∈l->Rows.uptoBulk d<=Rows.uptoBulkAll l
 |x::r,h=>by
  simp only [Rows.uptoBulkAll];rcases List.mem_cons.1 h with rfl|h
  .omega
  .have:=DB h;omega
structure ajj(P:Program)(t:TypeId):Prop where
 fields:∃(fs:Array Field) (f0 f1 f2 f3:Field),P.underlying t=some (.struct fs)/\fs.size=4/\fs[0]? =some f0/\fs[1]? =some f1/\fs[2]? =some f2/\fs[3]? =some f3/\
  (f0.offset=0/\P.underlying f0.type=some (.int .i64)/\P.cellsOf f0.type=1)/\(f1.offset=1/\P.underlying f1.type=some (.int .i64)/\P.cellsOf f1.type=1)/\
  (f2.offset=2/\P.underlying f2.type=some (.int .i64)/\P.cellsOf f2.type=1)/\(f3.offset=3/\P.underlying f3.type=some (.slice t)/\P.cellsOf f3.type=1)
 cells:P.cellsOf t=4
theorem apN{a:Nat}{t:TypeId}{v:Value}{c:Array Field}(b:P.underlying t=some (.struct c))(h:Value.okWide P w .any a t v):
  ∃cs,v= .agg cs/\cs.size=P.cellsOf t/\Row.okWide P w .any a t cs:=by
 unfold Value.okWide at h;rw [b] at h;exact h
theorem ahN{a:Addr}{v:Value}(h:w.cell? a=some v):a.spot=none/\∃cs e fr,w.heap[a.block]? =some (.cells cs e fr)/\cs[a.off]? =some v:=by
 unfold World.cell? at h;split at h
 .rename_i cs e fr hb;split at h
  .cases h
  next b=>exact ⟨by simpa using b,cs,e,fr,hb,h⟩
 .cases h
theorem ahp{H:Type}{enc:TypeId×Value->H}{W:World}{t:TypeId}(L:ajj P t):∀(o:Nat) (cs:xu) (x:DataW H×List MemPlace),
  DataW.trod enc P W 0 (λ_=>true) true o t cs=some x->∃e,uF (λ_=>False) W cs e/\e.sz<=Rows.uptoBulk x.1:=by
 intro o
 induction o using Nat.strongRecOn with
 |ind o ih=>
 intro cs x h;obtain ⟨⟨fs,f0,f1,f2,f3,hT,hsz,g0,g1,g2,g3,⟨o0,u0,c0⟩,⟨o1,u1,c1⟩,⟨o2,u2,c2⟩,⟨o3,u3,c3⟩⟩,hc⟩:=L;obtain ⟨xs,n,rfl,rfl,hl,C,V⟩:=DataW.trod_struct hT h;rw [hc] at hl;rw [hsz] at C;obtain ⟨a0,U,T,B,rfl⟩:∃a0 U T B,cs=[a0,U,T,B]:=by
  match cs,hl with
  |[a,b,c,d],_=>exact ⟨a,b,c,d,rfl⟩
 obtain ⟨x0,x1,x2,z,rfl⟩:∃a0 U T B,xs=[a0,U,T,B]:=by
  match xs,C with
  |[a,b,c,d],_=>exact ⟨a,b,c,d,rfl⟩
 have Y:=V 0 f0 g0;have t1:=V 1 f1 g1;have t2:=V 2 f2 g2;have X:=V 3 f3 g3;rw [o0,c0] at Y;rw [o1,c1] at t1;rw [o2,c2] at t2;rw [o3,c3] at X;simp only [j6,qT,List.take_zero,List.drop_succ_cons,eF,cd] at Y t1 t2 X;obtain ⟨w,e0,_,_⟩:=DataW.trod_int u0 Y;obtain ⟨v,e1,_,_⟩:=DataW.trod_int u1 t1;obtain ⟨u,e2,_,_⟩:=DataW.trod_int u2 t2;obtain rfl:a0= .int .i64 w:=by simpa using e0
 obtain rfl:U= .int .i64 v:=by simpa using e1
 obtain rfl:T= .int .i64 u:=by simpa using e2
 have hb:∀d,z.1=d->Rows.uptoBulk d+1<=Rows.uptoBulk (DataW.agg ([x0,x1,x2,z].map (·.1))):=λd hd=>by subst hd;have:=DB (d:=z.1) (l:=[x0,x1,x2,z].map (·.1)) (by simp);simp only [Rows.uptoBulk];omega
 rcases DataW.trod_slice u3 X with ⟨p,D⟩|⟨a,len,cap,f,rest,m,rfl,p,D,_,hlc,_,I,N,hsp,_⟩
 .obtain rfl:B= .slice none 0 0:=by simpa using p
  refine ⟨.mk w v u [],.nil w v u none,?_⟩;have:=hb _ rfl;have:=Qz z.1;simp only [Ex.sz,szL];omega
 .obtain rfl:B= .slice (some a) len cap:=by simpa using p
  obtain ⟨hrl,F⟩:=hsp rfl;rw [hc] at N F
  -- all of it is there
  have cell:∀i,i<cap->∃us y,W.cells? 0 (a.add (i*4)) 4=some us/\us.length=4/\(∀j,j<4->W.cell? ((a.add (i*4)).add j)=us[j]?)/\DataW.trod enc P W 0 (λ_=>true) true m t us=some y/\(i<len->f[i]? =some y):=λi hi=>by
   by_cases K:i<len
   .obtain ⟨y,q⟩:∃y,f[i]? =some y:=⟨f[i]'(by omega),b9 _⟩;have:=N i K;rw [q,qK] at this;obtain ⟨us,A,R⟩:=this;obtain ⟨_,p,s⟩:=World.cells?_some A;exact ⟨us,y,A,p,s,R,λ_=>q⟩
   .obtain ⟨y,q⟩:∃y,rest[i-len]? =some y:=⟨rest[i-len]'(by omega),b9 _⟩;have:=F (i-len) (by omega);rw [q,qK] at this;obtain ⟨us,A,R⟩:=this;have e:len+(i-len)=i:=by omega
    rw [e] at A;obtain ⟨_,p,s⟩:=World.cells?_some A;exact ⟨us,y,A,p,s,R,λh=>absurd h K⟩
  by_cases O:cap=0
  .subst O;obtain rfl:len=0:=by omega
   refine ⟨.mk w v u [],.nil w v u (some a),?_⟩;have:=hb _ rfl;have:=Qz z.1;simp only [Ex.sz,szL];omega
  .obtain ⟨us0,_,_,hl0,hc0,_⟩:=cell 0 (by omega);have S:=hc0 0 (by omega);rw [b9 (by omega)] at S;obtain ⟨hs,k,e',fr,Q,_⟩:=ahN S;have E:a.spot=none:=by simpa [Addr.add] using hs
   have g:W.heap[a.block]? =some (.cells k e' fr):=by simpa [Addr.add] using Q
   obtain ⟨b,off,sp⟩:=a;simp only at E g;subst E;have at_:∀i j,((⟨b,off,none⟩:Addr).add (i*4)).add j=⟨b,off+i*4+j,none⟩:=λi j=>by unfold Addr.add;split <;> split <;> simp_all
   have r:∀i,i<cap->∃us y,us.length=4/\(∀j,j<4->k[off+i*4+j]? =us[j]?)/\DataW.trod enc P W 0 (λ_=>true) true m t us=some y/\(i<len->f[i]? =some y):=λi hi=>by obtain ⟨us,y,_,p,s,h5,h6⟩:=cell i hi;refine ⟨us,y,p,λj J=>?_,h5,h6⟩;have:=s j J;rw [at_] at this;simpa [World.cell?,g] using this
   have hsize:off+cap*4<=k.size:=by obtain ⟨us,_,p,s,_⟩:=r (cap-1) (by omega);have:=s 3 (by omega);rw [b9 (by omega)] at this;have:=(Array.getElem?_eq_some_iff.1 this).1;omega
   have M:∀i y,f[i]? =some y->∃e,(uF (λ_=>False) W (((k.toList.drop off).drop (i*4)).take 4) e/\e.sz<=Rows.uptoBulk y.1):=λi y q=>by
    have hi:i<len:=by rw [<-I];exact (List.getElem?_eq_some_iff.1 q).1
    obtain ⟨us,y',p,s,h5,h6⟩:=r i (by omega);obtain rfl:y'=y:=by have:=h6 hi;rw [q] at this;exact (p8 this).symm
    have Z:((k.toList.drop off).drop (i*4)).take 4=us:=by
     apply qv;intro j;by_cases J:j<4
     .rw [l5,hW J,j5,j5,<-s j J];simp [qx]
     .rw [l5,gx J,lk (by omega)]
    rw [Z];exact ih m (by omega) us y' h5
   obtain ⟨l,hll,hR⟩:=Vv (λi y e=>uF (λ_=>False) W (((k.toList.drop off).drop (i*4)).take 4) e/\e.sz<=Rows.uptoBulk y.1) f M;have G:l.length=len:=by omega
   refine ⟨.mk w v u l,?_,?_⟩
   .rw [<-G];refine .some w v u l b off cap k e' fr (λh=>h) g (by omega) (by omega) ?_ (λi hi=>?_)
    .simp only [b0,cr,ch];omega
    .obtain ⟨y,q⟩:∃y,f[i]? =some y:=⟨f[i]'(by omega),b9 _⟩;have:=(hR i y l[i] q (b9 _)).1;rw [qc,n7];have e4:min 4 (l.length*4-i*4)=4:=by omega
     rw [e4];exact this
   .have A:=aiX l (f.map (·.1)) (by simp [hll]) (λi e d he hd=>by rw [n9,Option.map_eq_some_iff] at hd;obtain ⟨y,q,rfl⟩:=hd;exact (hR i y e q he).2)
    have R:z.1= .slice (f.map (·.1)) (rest.map (·.1)):=by rw [D]
    have p:=hb _ R;simp only [Ex.sz];have s:Rows.uptoBulk (DataW.slice (f.map (·.1)) (rest.map (·.1)))=Rows.uptoBulkAll (f.map (·.1))+Rows.uptoBulkAll (rest.map (·.1))+1:=by simp only [Rows.uptoBulk]
    omega
variable {Q : Nat -> Prop} {W : World}
open Go.ChangeMaps (open_string)
def rz:Ty->vB
 | .p a b=>rz a++rz b
 | .l _|.ex=>[none]
 |_=>[]
def ap3:Ty->Pt
 | .i k=> .int k
 | .bo=> .bool
 | .s=> .str
 | .l t=> .sli t
 |t=> .dat t (rz t)
def Db(Q:Nat->Prop):(t:Ty)->t.T->Prop
 | .i k,x=>(Lit.int k x).wf=true
 | .s,x=>x.length<=9223372036854775807
 | .p a b,x=>Db Q a x.1/\Db Q b x.2
 | .l t,x=>(List.length (α:=t.T) x<=9223372036854775807/\Q (List.length (α:=t.T) x))/\∀y:t.T,List.Mem y x->Db Q t y
 | .ex,x=>Q x.sz
 |_,_=>True
def LF(P:Program)(t:TypeId):Bool:=(match P.underlying t with
 |some (.int .i64)=>true
 |_=>false)&&P.cellsOf t==1
def exB(P:Program)(t:TypeId):Bool:=(match P.underlying t with
 |some (.struct fs)=>(match fs.toList with
  |[f0,f1,f2,f3]=>f0.offset==0&&LF P f0.type&&(f1.offset==1&&LF P f1.type)&&(f2.offset==2&&LF P f2.type)&&(f3.offset==3&&P.cellsOf f3.type==1&&(match P.underlying f3.type with
   |some (.slice e)=>e==t
   |_=>false))
  |_=>false)
 |_=>false)&&P.cellsOf t==4
def Av(P:Program)(fit:TypeId->Ty->Bool)(tot:Nat):List Field->Nat->Ty->Bool
 |[],_,_=>false
 |[f],off,t=>f.offset==off&&off+P.cellsOf f.type==tot&&P.cellsOf f.type==t.rep.n&&fit f.type t
 |f::g::fs,off,t=>match t with
  | .p a b=>f.offset==off&&P.cellsOf f.type==a.rep.n&&fit f.type a&&Av P fit tot (g::fs) (off+P.cellsOf f.type) b
  |_=>false
def fits(P:Program):Nat->TypeId->Ty->Bool
 |0,_,_=>false
 |n+1,i,t=>match P.underlying i with
  |some (.int k)=>(match t with
   | .i k'=>decide (k=k')
   |_=>false)
  |some .bool=>(match t with
   | .bo=>true
   |_=>false)
  |some .string=>(match t with
   | .s=>true
   |_=>false)
  |some (.slice e)=>(match t with
   | .l u=>P.cellsOf e==u.rep.n&&Nat.blt 0 u.rep.n&&fits P n e u
   |_=>false)
  |some (.struct fs)=>(match t with
   | .ex=>exB P i
   | .p a b=>Av P (fits P n) (P.cellsOf i) fs.toList 0 (.p a b)
   |_=>false)
  |_=>false
def YN:Ty->Bool
 | .n=>false
 | .p a b=>YN a&&YN b
 |_=>true
theorem MT{P:Program}{c:TypeId->Ty->Bool}(h:∀i t,c i t=true->YN t=true){d:Nat}:∀(j:List Field) (off:Nat) (t:Ty),Av P c d j off t=true->YN t=true
 |[],_,_,e=>by cases e
 |[f],off,t,e=>by
  simp only [Av,ae] at e;exact h _ _ e.2
 |f::g::j,off,t,e=>by
  unfold Av at e;split at e
  next a b=>simp only [ae] at e;simp only [YN,ae];exact ⟨h _ _ e.1.2,MT h (g::j) _ b e.2⟩
  .cases e
theorem abb{P:Program}:∀(n:Nat) (i:TypeId) (t:Ty),fits P n i t=true->YN t=true
 |0,_,_,e=>by cases e
 |n+1,i,t,e=>by
  unfold fits at e;split at e <;> (try cases e)
  .split at e
   .rfl
   .cases e
  .split at e
   .rfl
   .cases e
  .split at e
   .rfl
   .cases e
  .split at e
   .rfl
   .cases e
  .split at e
   .rfl
   .exact MT (λi t=>abb n i t) _ _ _ e
   .cases e
theorem sV{t:TypeId}(h:LF P t=true):P.underlying t=some (.int .i64)/\P.cellsOf t=1:=by
 unfold LF at h;simp only [ae,kN] at h;refine ⟨?_,h.2⟩;revert h;split
 next h=>intro _;exact h
 .intro h;cases h.1
theorem ape{t:TypeId}(h:exB P t=true):ajj P t:=by
 unfold exB at h;simp only [ae,kN] at h;obtain ⟨a,r⟩:=h;split at a
 .rename_i f b;split at a
  .rename_i l k j c d;simp only [ae,kN] at a;obtain ⟨⟨⟨⟨a0,o⟩,x,n⟩,w,m⟩,⟨v,s⟩,u⟩:=a;have g:∀i:Nat,f[i]? =[l,k,j,c][i]? :=λi=>by rw [<-d,qp]
   have p:P.underlying c.type=some (.slice t):=by
    revert u;split
    next e q=>intro hb;rw [q,(by simpa using hb:e=t)]
    .intro hb;cases hb
   refine ⟨⟨f,l,k,j,c,b,?_,g 0,g 1,g 2,g 3,⟨a0,(sV o).1,(sV o).2⟩,⟨x,(sV n).1,(sV n).2⟩,⟨w,(sV m).1,(sV m).2⟩,⟨v,p,s⟩⟩,r⟩;rw [<-ch,d];rfl
  .cases a
 .cases a
theorem amn{a:Addr}{v:Value}(h:w.cell? a=some v):a.spot=none/\∃cs e fr,w.heap[a.block]? =some (.cells cs e fr)/\cs[a.off]? =some v:=by
 unfold World.cell? at h;split at h
 .rename_i cs e fr hb;split at h
  .cases h
  next b=>exact ⟨by simpa using b,cs,e,fr,hb,h⟩
 .cases h
theorem OR{Y α:Type}(R:Nat->Y->α->Prop):∀(ys:List Y),(∀i y,ys[i]? =some y->∃e,R i y e)->∃l:List α,l.length=ys.length/\∀i y e,ys[i]? =some y->l[i]? =some e->R i y e
 |[],_=>⟨[],rfl,λi y e h=>by simp at h⟩
 |y::ys,h=>by
  obtain ⟨e,f⟩:=h 0 y rfl;obtain ⟨l,d,c⟩:=OR (λi=>R (i+1)) ys (λi y a=>h (i+1) y (by simpa using a));refine ⟨e::l,by simp [d],λi b e' a hx=>?_⟩;cases i with
  |zero=>
   simp only [eF,b8] at a hx;subst a;subst hx;exact f
  |succ i=>exact c i b e' (by simpa using a) (by simpa using hx)
theorem PH{H:Type}:∀(l:List (DataW H)),l.length<=Rows.uptoBulkAll l
 |[]=>qd _
 |d::l=>by have:=PH l;have:=Qz d;simp only [cx,Rows.uptoBulkAll];omega
theorem aks{H:Type}{enc:TypeId×Value->H}{t e:TypeId}{A:dG α}{D:α->Prop}(ht:P.underlying t=some (.slice e))(hA:P.cellsOf e=A.n)(hn:0<A.n)
  (p:Nat) (cs:xu) (x:DataW H×List MemPlace) (N:∀n,n<=Rows.uptoBulk x.1->Q n)
  (he:∀(p:Nat) (us:xu) (y:DataW H×List MemPlace),(∀n,n<=Rows.uptoBulk y.1->Q n)->DataW.trod enc P W 0 (λ_=>true) true p e us=some y->∃z,A.rd (λ_=>False) W us z/\D z)
  (h:DataW.trod enc P W 0 (λ_=>true) true p t cs=some x):
  ∃(u:fE) (zs:List α),cs=[sl u]/\bP A (λ_=>False) W (sl u) zs/\(zs.length<=9223372036854775807/\Q zs.length)/\∀z∈zs,D z:=by
 rcases DataW.trod_slice ht h with ⟨o,_⟩|⟨a,len,cap,c,rest,m,rfl,o,hx,_,hlc,B,E,J,T,_⟩
 .exact ⟨(none,0,0),[],o,bP.nil,⟨by simp,N _ (qd _)⟩,by simp⟩
 .obtain ⟨hrl,w⟩:=T rfl;rw [hA] at J w;have B:cap<=9223372036854775807:=B;have hb:Rows.uptoBulk x.1=Rows.uptoBulkAll (c.map (·.1))+Rows.uptoBulkAll (rest.map (·.1))+1:=by rw [hx];simp only [Rows.uptoBulk]
  have hlb:len<=Rows.uptoBulk x.1:=by have:=PH (c.map (·.1));simp only [List.length_map] at this;omega
  have V:∀y∈c,∀n,n<=Rows.uptoBulk y.1->Q n:=λy k n hn=>N n (by have:=DB (d:=y.1) (l:=c.map (·.1)) (List.mem_map.2 ⟨y,k,rfl⟩);omega)
  have cell:∀i,i<cap->∃us y,us.length=A.n/\(∀j,j<A.n->W.cell? ((a.add (i*A.n)).add j)=us[j]?)/\DataW.trod enc P W 0 (λ_=>true) true m e us=some y/\(i<len->c[i]? =some y):=λi hi=>by
   by_cases G:i<len
   .obtain ⟨y,k⟩:∃y,c[i]? =some y:=⟨c[i]'(by omega),b9 _⟩;have:=J i G;rw [k,qK] at this;obtain ⟨us,O,Z⟩:=this;obtain ⟨_,o,r⟩:=World.cells?_some O;exact ⟨us,y,o,r,Z,λ_=>k⟩
   .obtain ⟨y,k⟩:∃y,rest[i-len]? =some y:=⟨rest[i-len]'(by omega),b9 _⟩;have:=w (i-len) (by omega);rw [k,qK,show len+(i-len)=i by omega] at this;obtain ⟨us,O,Z⟩:=this;obtain ⟨_,o,r⟩:=World.cells?_some O;exact ⟨us,y,o,r,Z,λh=>absurd h G⟩
  by_cases K:cap=0
  .subst K;obtain rfl:len=0:=by omega
   exact ⟨(some a,0,0),[],o,bP.emp,⟨by simp,N _ (qd _)⟩,by simp⟩
  .obtain ⟨us0,_,hl0,U,_⟩:=cell 0 (by omega);have M:=U 0 hn;rw [b9 (by omega)] at M;obtain ⟨hs,f,e',fr,L,_⟩:=amn M;have v:a.spot=none:=by simpa [Addr.add] using hs
   have g:W.heap[a.block]? =some (.cells f e' fr):=by simpa [Addr.add] using L
   obtain ⟨b,off,sp⟩:=a;simp only at v g;subst v;have at_:∀i j,((⟨b,off,none⟩:Addr).add (i*A.n)).add j=⟨b,off+i*A.n+j,none⟩:=λi j=>by unfold Addr.add;split <;> split <;> simp_all
   have q:∀i,i<cap->∃us y,us.length=A.n/\(∀j,j<A.n->f[off+i*A.n+j]? =us[j]?)/\DataW.trod enc P W 0 (λ_=>true) true m e us=some y/\(i<len->c[i]? =some y):=λi hi=>by obtain ⟨us,y,o,r,Y,X⟩:=cell i hi;refine ⟨us,y,o,λj F=>?_,Y,X⟩;have:=r j F;rw [at_] at this;simpa [World.cell?,g] using this
   have s:off+cap*A.n<=f.size:=by
    obtain ⟨us,_,o,r,_⟩:=q (cap-1) (by omega);have:=r (A.n-1) (by omega);rw [b9 (by omega)] at this;have:=(Array.getElem?_eq_some_iff.1 this).1;have e1:cap*A.n=(cap-1)*A.n+A.n:=by
     have:cap=(cap-1)+1:=by omega
     conv=>lhs;rw [this]
     rw [p5,Nat.one_mul]
    omega
   have I:∀i y,c[i]? =some y->∃z,(A.rd (λ_=>False) W (((f.toList.drop off).drop (i*A.n)).take A.n) z/\D z):=λi y k=>by
    have hi:i<len:=by rw [<-E];exact (List.getElem?_eq_some_iff.1 k).1
    obtain ⟨us,R,o,r,Y,X⟩:=q i (by omega);obtain rfl:R=y:=by have:=X hi;rw [k] at this;exact (p8 this).symm
    have S:((f.toList.drop off).drop (i*A.n)).take A.n=us:=by
     apply qv;intro j;by_cases F:j<A.n
     .rw [l5,hW F,j5,j5,<-r j F];simp [qx]
     .rw [l5,gx F,lk (by omega)]
    rw [S];exact he m us R (V R (pa k)) Y
   obtain ⟨l,hll,hR⟩:=OR (λi y z=>A.rd (λ_=>False) W (((f.toList.drop off).drop (i*A.n)).take A.n) z/\D z) c I;have C:l.length=len:=by omega
   have get:∀i (hi:i<l.length),A.rd (λ_=>False) W (((f.toList.drop off).drop (i*A.n)).take A.n) l[i]/\D l[i]:=λi hi=>by obtain ⟨y,k⟩:∃y,c[i]? =some y:=⟨c[i]'(by omega),b9 _⟩;exact hR i y l[i] k (b9 _)
   refine ⟨(some ⟨b,off,none⟩,len,cap),l,o,.inr ⟨b,off,cap,f,e',fr,by rw [C];rfl,(λh=>h),g,by omega,s,?_⟩,⟨by omega,N _ (by omega)⟩,λz hz=>?_⟩
   .have hle:l.length*A.n<=cap*A.n:=e9 _ (by omega);refine ⟨?_,λi hi=>?_⟩
    .simp only [b0,cr,ch];omega
    .have O:i*A.n+A.n<=l.length*A.n:=by rw [<-qX];exact e9 _ hi
     rw [qc,n7,du (by omega)];exact (get i hi).1
   .obtain ⟨i,hi,rfl⟩:=List.getElem_of_mem hz;exact (get i hi).2
theorem aeI{H:Type}{enc:TypeId×Value->H}:∀(n:Nat) (i:TypeId) (t:Ty),fits P n i t=true->∀(o:Nat) (cs:xu) (x:DataW H×List MemPlace),
  (∀n,n<=Rows.uptoBulk x.1->Q n)->DataW.trod enc P W 0 (λ_=>true) true o i cs=some x->∃z:t.T,t.rep.rd (λ_=>False) W cs z/\Db Q t z:=by
 intro n
 induction n with
 |zero=>intro i t h;cases h
 |succ n ih=>
 intro i t c o cs x R h;unfold fits at c;split at c
 .rename_i k s;split at c
  .obtain ⟨z,q,_,v⟩:=DataW.trod_int s h;have e:=qe c;subst e;exact ⟨z,q,v⟩
  .cases c
 .rename_i s;split at c
  .obtain ⟨z,q,_⟩:=DataW.trod_bool s h;exact ⟨z,q,trivial⟩
  .cases c
 .rename_i s;split at c
  .obtain ⟨⟨⟨z⟩⟩,q,_,v⟩:=DataW.trod_string s h;exact ⟨z,q,v⟩
  .cases c
 .rename_i e s;split at c
  next u=>simp only [ae,kN,gy] at c;obtain ⟨⟨q,F⟩,v⟩:=c;obtain ⟨p,zs,a1,a2,a3,Z⟩:=aks (A:=u.rep) (Q:=Q) (D:=Db Q u) s q F o cs x R (λo us y J h=>ih e u v o us y J h) h;exact ⟨zs,⟨p,a1,a2⟩,a3,Z⟩
  .cases c
 .rename_i B s;have key:∀t:Ty,Av P (fits P n) (P.cellsOf i) B.toList 0 t=true->∃z:t.T,t.rep.rd (λ_=>False) W cs z/\Db Q t z:=λt c=>by
   obtain ⟨xs,m,_,hx,hl,K,N⟩:=DataW.trod_struct s h;have hb:Rows.uptoBulk x.1=Rows.uptoBulkAll (xs.map (·.1))+1:=by rw [hx];simp only [Rows.uptoBulk]
   have O:∀y∈xs,∀n,n<=Rows.uptoBulk y.1->Q n:=λy J n hn=>R n (by have:=DB (d:=y.1) (l:=xs.map (·.1)) (List.mem_map.2 ⟨y,J,rfl⟩);omega)
   have one:∀(j:Nat) (f:Field) (t:Ty),B.toList[j]? =some f->fits P n f.type t=true->∃z:t.T,t.rep.rd (λ_=>False) W ((cs.drop f.offset).take (P.cellsOf f.type)) z/\Db Q t z:=λj f t G Y=>by
    have E:B[j]? =some f:=by simpa using G
    have q:=N j f E;have M:j<xs.length:=by rw [K];exact (Array.getElem?_eq_some_iff.1 E).1
    rw [b9 M] at q;exact ih f.type t Y m _ _ (O _ (qo _)) q
   have go:∀(r:List Field) (j off:Nat) (t:Ty),B.toList.drop j=r->Av P (fits P n) (P.cellsOf i) r off t=true->∃z:t.T,t.rep.rd (λ_=>False) W (cs.drop off) z/\Db Q t z:=λr=>by
    induction r with
    |nil=>intro j off t _ h;cases h
    |cons f r I=>
     intro j off t U c;have G:B.toList[j]? =some f:=by have:=congrArg (·[0]?) U;simpa [j5] using this
     have L:B.toList.drop (j+1)=r:=by rw [<-n3,U];rfl
     cases r with
     |nil=>
      simp only [Av,ae,kN] at c;obtain ⟨⟨⟨q,F⟩,v⟩,S⟩:=c;obtain ⟨z,w,C⟩:=one j f t G S;rw [q,j0 (by simp;omega)] at w;exact ⟨z,w,C⟩
     |cons g r=>
      unfold Av at c;split at c
      next a b=>simp only [ae,kN] at c;obtain ⟨⟨⟨q,F⟩,v⟩,S⟩:=c;obtain ⟨z,w,C⟩:=one j f a G v;obtain ⟨y,X,V⟩:=I (j+1) _ b L S;rw [q] at w;refine ⟨(z,y),⟨_,_,?_,w,X⟩,C,V⟩;rw [<-n3];exact (qM ..).symm
      .cases c
   obtain ⟨z,w,C⟩:=go B.toList 0 0 t rfl c;exact ⟨z,by simpa using w,C⟩
  split at c
  .obtain ⟨e,q,F⟩:=ahp (ape c) o cs x h;exact ⟨e,q,R _ F⟩
  .exact key _ c
  .cases c
 .cases c
def kc(W:World)(I:eI):Prop:= ∀it∈I,it.1=false/\it.2.cG=true/\∀M,Mv (λ_=>False) W M W->it.2.P M W
theorem kc.nil:kc W []:=λit h=>by cases h
theorem kc.app{I J:eI}(h:kc W I)(k:kc W J):kc W (I++J):=λit a=>by
 rcases List.mem_append.1 a with b|b
 .exact h it b
 .exact k it b
theorem kc.one{A:dG α}{p:fE}{l:List α}(h:bP A (λ_=>False) W (sl p) l):kc W [(false,Fk true A p l false)]:=λit a=>by
 rcases List.mem_singleton.1 a with rfl
 exact ⟨rfl,rfl,λM b _=>⟨h.mv b,λh=>by cases h⟩⟩
theorem H7{W:World}:∀(t:Ty) (cs:xu) (x:t.T),YN t=true->t.rep.rd (λ_=>False) W cs x->∀(o:vB) (N:List Nm),∃I N',Sd t x cs (rz t++o) N I N' o/\kc W I
 | .i k,cs,x,hn,h,o,N=>⟨[],N,⟨h,rfl,rfl,rfl⟩,.nil⟩
 | .bo,cs,x,hn,h,o,N=>⟨[],N,⟨h,rfl,rfl,rfl⟩,.nil⟩
 | .s,cs,x,hn,h,o,N=>⟨[],N,⟨h,rfl,rfl,rfl⟩,.nil⟩
 | .un,cs,x,hn,h,o,N=>⟨[],N,⟨h,rfl,rfl,rfl⟩,.nil⟩
 | .n,cs,x,hn,h,o,N=>by cases hn
 | .mp _ _,cs,x,hn,h,o,N=>absurd h id
 | .p a b,cs,x,hn,h,o,N=>by
  simp only [YN,ae] at hn;obtain ⟨c1,e,d,c,q⟩:=h;obtain ⟨g,N1,m,u⟩:=H7 a c1 x.1 hn.1 c (rz b++o) N;obtain ⟨f,N2,j,r⟩:=H7 b e x.2 hn.2 q o N1;refine ⟨g++f,N2,⟨c1,e,N1,g,f,rz b++o,?_,j,d,rfl⟩,u.app r⟩;rw [show rz (.p a b)++o=rz a++(rz b++o) by simp [rz]];exact m
 | .l t,cs,x,hn,h,o,N=>by
  obtain ⟨p,d,c⟩:=h;exact ⟨_,_,⟨⟨0,p,⟨0,0,none⟩,none,.bool false,⟨.un,()⟩⟩,d,rfl,.inl ⟨rfl,rfl⟩⟩,.one c⟩
 | .ex,cs,x,hn,h,o,N=>by obtain ⟨p,d,c⟩:=IQ h;exact ⟨_,_,⟨⟨0,p,⟨0,0,none⟩,none,.bool false,⟨.un,()⟩⟩,d,rfl,.inl ⟨rfl,rfl⟩⟩,.one c⟩
def Arg(W:World)(t:Ty)(v:Value)(z:t.T):Prop:= ∀N:List Nm,∃I N',Sem (ap3 t) v none none N [⟨t,z⟩] I [] N'/\kc W I
theorem OU{H:Type}{enc:TypeId×Value->H}{o:Nat}{n:Nat}{i:TypeId}(t:Ty)(f:fits P n i t=true){v:Value}{d:DataW H}{ps:List MemPlace}
  (l:Value.okWide P W .any o i v) (x:∀n,n<=Rows.uptoBulk d->Q n) (h:DataW.Trod enc P W 0 (λ_=>true) true i v d ps):∃z:t.T,Arg W t v z/\Db Q t z:=by
 have q:=h;obtain ⟨m,hx⟩:=h;obtain ⟨z,c,A⟩:=aeI n i t f m _ _ x hx;refine ⟨z,?_,A⟩;cases n with
 |zero=>cases f
 |succ n=>
 unfold fits at f;split at f
 .rename_i k j;split at f
  .have e:=qe f;subst e;obtain ⟨y,rfl,_⟩:=open_int j l q;have:y=z:=by
    have c:([.int k y]:xu)=[.int k z]:=c;injection c with c _
    injection c
   subst this;exact λN=>⟨[],N,⟨y,rfl,rfl,rfl,rfl,rfl⟩,.nil⟩
  .cases f
 .rename_i j;split at f
  .obtain ⟨y,rfl,_⟩:=open_bool j l q;have:y=z:=by
    have c:([.bool y]:xu)=[.bool z]:=c;injection c with c _
    injection c
   subst this;exact λN=>⟨[],N,⟨y,rfl,rfl,rfl,rfl,rfl⟩,.nil⟩
  .cases f
 .rename_i j;split at f
  .obtain ⟨⟨⟨y⟩⟩,rfl,_⟩:=open_string j l q;have:y=z:=by
    have c:([S y]:xu)=[S z]:=c;injection c with c _
    injection c with c
    injection c with c
    injection c
   subst this;exact λN=>⟨[],N,⟨y,rfl,rfl,rfl,rfl,rfl⟩,.nil⟩
  .cases f
 .rename_i e j;split at f
  .rename_i u;obtain ⟨a,len,cap,rfl⟩:=okWide_slice j l;obtain ⟨p,w,r⟩:=c;have B:Value.slice a len cap=sl p:=by simpa [Value.cells] using w
   rw [B];exact λN=>⟨_,_,⟨⟨0,p,⟨0,0,none⟩,none,.bool false,⟨.un,()⟩⟩,z,rfl,rfl,rfl,rfl,rfl⟩,.one r⟩
  .cases f
 .rename_i D j;obtain ⟨cs,rfl,_,_⟩:=apN j l;split at f
  .obtain ⟨p,w,r⟩:=IQ c;exact λN=>⟨_,_,⟨cs.toList,z,[],by simp,rfl,⟨⟨0,p,⟨0,0,none⟩,none,.bool false,⟨.un,()⟩⟩,w,rfl,.inl ⟨rfl,rfl⟩⟩,rfl⟩,.one r⟩
  .rename_i a b;exact λN=>by
    obtain ⟨I,C,s,g⟩:=H7 (.p a b) _ z (MT (λi t=>abb n i t) _ _ _ f) c [] N;exact ⟨I,C,⟨cs.toList,z,[],by simp,rfl,by simpa [Value.cells] using s,rfl⟩,g⟩
  .cases f
 .cases f
def akK(W:World)(ps:List Pt)(vs:xu)(D:List bY):Prop:= ∀N:List Nm,∃I N',tT ps vs [] [] N D I [] N'/\kc W I
theorem am0:akK W [] [] []:=λN=>⟨[],N,⟨rfl,rfl,rfl,rfl,rfl⟩,.nil⟩
theorem YS{W:World}{t:Ty}{v:Value}{z:t.T}{ps:List Pt}{vs:xu}{D:List bY}(h:Arg W t v z)(k:akK W ps vs D):akK W (ap3 t::ps) (v::vs) (⟨t,z⟩::D):=λN=>by obtain ⟨b,N1,d,f⟩:=h N;obtain ⟨a,N2,c,e⟩:=k N1;exact ⟨b++a,N2,⟨v,vs,[⟨t,z⟩],D,b,a,[],[],N1,rfl,d,c,rfl,rfl,rfl⟩,f.app e⟩
theorem amv{I:eI}{Γ:Ctx}(g:kc W I)(b:GL Γ)(h:Sat Γ W):Sat (dh I++Γ) W:=AQ h _ (λit a=>by obtain ⟨x,hx,rfl⟩:=List.mem_map.1 a;exact ⟨(g x hx).2.1,(g x hx).2.2 _ (amI b)⟩)
namespace To
theorem Sk{x:Int}(h:(Lit.int .i64 x).wf=true):i64 x:=by simp only [Lit.wf,ae,kR] at h;exact h
abbrev tyV:Ty:= .p (.i .i64) (.p (.i .i64) (.p (.i .i64) (.p (.l (.i .i64)) (.p (.l (.l (.i .i64))) (.l (.l (.i .i64)))))))
theorem apJ{v:VT}(h:Db (λ_=>True) tyV v):ak8 v:=
 ⟨Sk h.2.1,Sk h.2.2.1,λn a=>Sk (h.2.2.2.1.2 n a),λx hx n a=>Sk ((h.2.2.2.2.1.2 x hx).2 n a),λx hx n a=>Sk ((h.2.2.2.2.2.2 x hx).2 n a)⟩
theorem ao2(a:aB)(v:VT)(_:Db (λ_=>True) .s a)(h:Db (λ_=>True) tyV v):gM a v=some true:=ahy a v (apJ h)
end To
end
end Go.Proofs.YtkedhpmpejhekaaGreatDoor
