/- Own texts for ToolNumbers, cut and joined by a program. -/
import Derived.Test.YtkedhpmpejhekaaGreatDoorToolNumbersH
import Derived.Lib.LaidTab
import Derived.Below
import Derived.ProofKit
import Derived.Test.YtkedhpmpejhekaaGreatDoorRows
import Derived.Carry
import Derived.ChangeSlices
import Derived.OpenShut
set_option linter.all false
namespace Go.Proofs.YtkedhpmpejhekaaGreatDoor
open IntKind (u64 u8)
noncomputable section
open Go.Proofs
noncomputable section
set_option maxRecDepth 100000
open Tryz
def im:aq:=⟨4,[(.dat acs [])],.bool,[],λs=>eo s⟩
def tU(B:Nat)(b:W6)(A:Bool)(g:aF)(e:Int)(c:R4->vb):aF×Int->vb:=λ⟨a,f⟩=> bif decide (f<(Int.tmod (IntKind.i64.wrap b.2.2.2.1) 8)) then bif (Int.tmod f 2)==0 then aI (lg a [32])<| aI (lg (a++[32]) g)<| c (((a++[32])++g),(IntKind.i64.wrap (f+1))) else aI (lg a [32])<| (dX (Int.tmod (IntKind.i64.wrap b.2.1) 1000000000)).bind λh=> aI (lg (a++[32]) h)<| c (((a++[32])++h),(IntKind.i64.wrap (f+1))) else (eN a).bind λd=> aI (lg a [32,49,50,51,52,53,54,55,56,57,48])<| (eN (a++[32,49,50,51,52,53,54,55,56,57,48])).bind λi=> ai ((Int.tmod (IntKind.i64.wrap b.2.2.2.1) 8)==e) λz=> ai (d.2 != z) λy=> ai (y||i.2) λx=> bif x then ( some false) else ( ai (!d.2) λw=> ai (d.1.2.1==(Int.tmod (IntKind.i64.wrap b.1) 1000000000)) λv=> ai (d.1.2.2.1==(Int.tmod (IntKind.i64.wrap b.2.1) 1000000000)) λu=> ai (v&&u) λt=> ai (!b.2.2.2.2) λs=> ai (d.1.2.2.2.2.1==(Int.tmod (IntKind.i64.wrap b.1) 1000000000)) λr=> ai (d.1.2.2.2.2.2==(Int.tmod (IntKind.i64.wrap b.2.1) 1000000000)) λq=> ai (r&&q) λp=> ai (d.1.2.2.2.1==(u64.wrap (Int.tmod (IntKind.i64.wrap b.1) 1000000000))) λo=> ai (p&&o) λn=> ai (s||n) λm=> ai (t&&m) λl=> ai (w||l) λk=> ai (A&&k) λj=> some j)
def ub(fl:Nat)(c:W6)(e:Bool)(d:aF)(b:aF)(a:Int):vb:= az (tU fl c e d a) fl (b,0)
def uq(fl:Nat)(a:W6)(j:Bool)(b:R4->vb):aF×Int->vb:=λ⟨c,f⟩=> ai (decide (f<(Int.tmod (IntKind.i64.wrap a.2.2.1) 9))) λi=> ai (decide ((c.length:Int)<9)) λh=> ai (i&&h) λg=> bif g then ( aI (lg [48] c)<| b (([48]++c),(IntKind.i64.wrap (f+1)))) else ( ai (λ(e:aF×Int)=>ub fl a j c e.1 e.2) λd=> bif a.2.2.2.2 then ( d ([108,111,115,115,121],5)) else ( d ([116,114,101,101],2)))
def xq(fl:Nat)(a:W6):vb:= (jB).bind λc=> (dX (Int.tmod (IntKind.i64.wrap a.1) 1000000000)).bind λb=> az (uq fl a c) fl (b,0)
theorem s7(fl:Nat)(s:dZ (lx im.ps)):Vn { X0 with fl:=fl } [sS,vw,FQ] [] [] (.l ⟨[(false,11,.str),(false,12,an)],[]⟩ (.c .o (.s (.s (.j ⟨[(false,13,.str),(false,14,an)],[]⟩ .o (.l ⟨[(false,13,.str),(false,16,an)],[]⟩ .o)))))) Tryz.f4 im s=xq fl s:=by kernel_rfl
theorem te:Ko im:=
 aX (.l ⟨[(false,11,.str),(false,12,an)],[]⟩ (.c .o (.s (.s (.j ⟨[(false,13,.str),(false,14,an)],[]⟩ .o (.l ⟨[(false,13,.str),(false,16,an)],[]⟩ .o)))))) call4 func4 (aj Ay (aj Ez (aj pR al))) al al λs=>(s7 aB s).trans (by kernel_rfl)
end
namespace To
open Go.Lib
def nb(w:aF):Prop:= ∀b∈w,b≠32
theorem ahL:∀(w l cur:aF),nb w->wl (w++l) cur=wl l (cur++w)
 |[],l,cur,_=>by simp
 |b::w,l,cur,h=>by have hb:(b==32)=false:=beq_eq_false_iff_ne.2 (h b (b0 ..));rw [du,wl,hb,gZ (by simp),ahL w l (cur++[b]) λc hc=>h c (.tail _ hc)];simp
theorem aiR{w:aF}(h:nb w)(a:w≠[]):wl w []=[w]:=by have:=ahL w [] [] h;rw [eF,oi] at this;rw [this,wl,gZ (by simpa using a)]
theorem Mo(w:aF):∀(l cur:aF),wl (l++32::w) cur=wl l cur++wl w []
 |[],cur=>by
  simp only [oi,wl,beq_self_eq_true,qp];split <;> simp
 |b::l,cur=>by
  simp only [du,wl];split
  .split <;> simp [Mo w l]
  .exact Mo w l _
def dgt(b:UInt8):Prop:=48<=b.toNat/\b.toNat<=57
theorem acq{k:Nat}(h:k<10):dgt (UInt8.ofNat (48+k)):=by
 have:(UInt8.ofNat (48+k)).toNat=48+k:=by simp [UInt8.toNat_ofNat'];omega
 exact ⟨by omega,by omega⟩
theorem anD(u:Nat):∀b∈decDigits u,dgt b:=by
 induction u using Nat.strongRecOn with
 |_ u ih=>
  intro b hb;rw [decDigits] at hb;split at hb
  next h=>rw [List.mem_singleton.1 hb];exact acq h
  .rcases List.mem_append.1 hb with hb|hb
   .exact ih (u/10) (by omega) b hb
   .rw [List.mem_singleton.1 hb];exact acq (qW _ (by omega))
theorem aa1(u:Nat):decDigits u≠[]:=by rw [decDigits];split <;> simp
def aoz(s:aF)(l:xb):aF:=s++l.flatMap λn=>32::itoa n
def pF:Nat->aF->vA
 |n,[]=>some n
 |n,b::l=>if 48<=b.toNat/\b.toNat<=57 then pF (10*n+(b.toNat-48)) l else none
def aky(s:aF):vA:=if s.length<1\/9<s.length then none else pF 0 s
theorem aaE:∀(s t:aF) (n:Nat),pF n (s++t)=(pF n s).bind λm=>pF m t
 |[],t,n=>rfl
 |b::s,t,n=>by
  rw [du,pF,pF];split
  .exact aaE s t _
  .rfl
theorem ajU(u:Nat):pF 0 (decDigits u)=some u:=by
 induction u using Nat.strongRecOn with
 |_ u ih=>
  have one:∀n k,k<10->pF n [UInt8.ofNat (48+k)]=some (10*n+k):=λn k a=>by
   have hd:=acq a;have:(UInt8.ofNat (48+k)).toNat=48+k:=by simp [UInt8.toNat_ofNat'];omega
   rw [pF,j5 (show 48<=_/\_ from hd),pF,this];congr 1;omega
  rw [decDigits];split
  next h=>rw [one 0 u h];simp
  .rw [aaE,ih (u/10) (by omega),de,one _ _ (qW _ (by omega))];congr 1;omega
theorem ai8:∀(k:Nat) (s:aF),pF 0 (List.replicate k 48++s)=pF 0 s
 |0,s=>rfl
 |k+1,s=>by rw [qf,du,pF,j5 (by decide)];exact ai8 k s
end To
variable {ρ : Type}
namespace To
open Go.Lib
theorem Rf{σ:Type}(F:(σ->Option ρ)->σ->Option ρ)(n:Nat)(s:σ):az F (n+1) s=F (az F n) s:=rfl
theorem Ml{n:Nat}(h:n<18446744073709551616):n<=aB:=Nat.le_of_lt h
theorem kY(k:Option ρ):aI true k=k:=rfl
theorem anE(k:Option ρ)(g:Bool):Ka g true k=k:=by cases g <;> rfl
theorem Fi{α:Type}(x:α)(k:α->Option ρ):ai x k=k x:=rfl
theorem apz{i:Int}{n:Nat}(b:0<=i)(a:i<n):yt i n=true:=v8.2 ⟨b,a⟩
theorem apo{i j:Int}{n:Nat}(c:0<=i)(b:i<=j)(a:j<=n):dn i j n=true:=AH.2 ⟨⟨c,b⟩,a⟩
theorem wK{m l:aF}(h:m.length+l.length<=9223372036854775807):lg m l=true:=qu h
theorem w1{i:Nat}(h:i<4611686018427387904):IntKind.i64.wrap ((i:Int)+1)=((i+1:Nat):Int):=by rw [yv (by omega)];rfl
theorem amn{α:Type}{l:List α}{i:Nat}(h:i<l.length):idx l (i:Int)=some l[i]:=by unfold idx;rw [j5 (by omega),qn,b7 h]
theorem aoC{l:aF}{i:Nat}(h:i<l.length):jo l (i:Int)=(l[i].toNat:Int):=by simp [jo,List.getD,h]
theorem akW(a:aF)(b:a.length<4294967296):Ab a=some (wl a []):=by unfold Ab agl;rw [qi (by omega),kY];rfl
def kr(s:aF):Int×Bool:=match aky s with
 |some n=>(n,true)
 |none=>(0,false)
theorem amX(b:UInt8):(b.toNat:Int)<256:=by have:=UInt8.toNat_lt b;omega
theorem p10:∀t:Nat,t<10->10^t<=1000000000:=by decide
theorem ap6(t:Nat):10^(t+1)=10*10^t:=by rw [Nat.pow_succ];omega
theorem ain(s:aF)(b:s.length<=9):∀(N t n:Nat),t<=s.length->s.length+1<=N+t->n<10^t->
  az (FL s) N ((n:Int),(t:Int))=some (match pF n (s.drop t) with
   |some m=>((m:Int),true)
   |none=>(0,false))
 |0,t,n,h1,h2,_=>by omega
 |N+1,t,n,h1,h2,h3=>by
  have hp:=p10 t (by omega);rw [Rf];show (bif (decide ((t:Int)<(s.length:Int))) then _ else _)=_;by_cases a:t<s.length
  .have hb:=amX s[t];have hd:s.drop t=s[t]::s.drop (t+1):=qz a;rw [qi (by omega),l5,apz (by omega) (by omega),kY];simp only [Fi];rw [anE,aoC a,hd,pF];by_cases hc:48<=s[t].toNat/\s[t].toNat<=57
   .rw [j5 hc,p8 (by omega),p8 (by omega),qw,kR,kY];have d:IntKind.i64.wrap ((IntKind.i64.wrap (10*(n:Int)))+(IntKind.i64.wrap (u8.wrap ((s[t].toNat:Int)-48))))=((10*n+(s[t].toNat-48):Nat):Int):=by
     have c:u8.wrap ((s[t].toNat:Int)-48)=(s[t].toNat:Int)-48:=by show ((s[t].toNat:Int)-48)%256=_;omega
     rw [c,yv (x:=(s[t].toNat:Int)-48) (by omega),yv (x:=10*(n:Int)) (by omega),yv (by omega)];omega
    rw [d,w1 (by omega),ain s b N (t+1) _ (by omega) (by omega) (by rw [ap6];omega)]
   .rw [gZ hc];have:(decide ((s[t].toNat:Int)<48)||decide (57<(s[t].toNat:Int)))=true:=by rw [ck,kz,kz];omega
    rw [this,l5]
  .rw [p8 (by omega),kR,mo (by omega)];rfl
theorem aiv(s:aF)(a:s.length<4294967296):wx s=some (kr s):=by
 unfold wx kr aky;simp only [Fi];by_cases h:s.length<1\/9<s.length
 .rw [j5 h];have:(decide ((s.length:Int)<1)||decide (9<(s.length:Int)))=true:=by rw [ck,kz,kz];omega
  rw [this];rfl
 .rw [gZ h,p8 (by omega),p8 (by omega)];exact ain s (by omega) aB 0 0 (by omega) (Ml (by omega)) (by decide)
def jS(w:aF):Int:=if w=[112,108,97,105,110] then 0 else if w=[112,97,114,116,115] then 1 else if w=[116,114,101,101] then 2 else if w=[119,111,114,100,115] then 3 else if w=[108,111,115,115,121] then 4 else -1
theorem LX(l:List aF)(w x:aF)(N t:Nat)(h:l[t]? =some x)(b:t<4611686018427387904):az (gA l w) (N+1) (t:Int)=if w=x then some (t:Int) else az (gA l w) N ((t+1:Nat):Int):=by
 obtain ⟨d,c⟩:=List.getElem?_eq_some_iff.1 h;rw [Rf];show (bif (decide ((t:Int)<(l.length:Int))) then _ else _)=_;rw [qi (by omega),l5,amn d,c,de,w1 b];by_cases a:w=x
 .rw [j5 a,a,beq_self_eq_true,l5]
 .rw [gZ a,beq_eq_false_iff_ne.2 a,kR]
theorem alZ(w:aF):cS lA w=some (jS w):=by
 unfold cS jS;obtain ⟨N,a⟩:∃N,aB=N+1+1+1+1+1+1:=⟨18446744073709551610,rfl⟩;rw [a,show (0:Int)=((0:Nat):Int) from rfl,LX lA w [112,108,97,105,110] _ 0 rfl (by omega),LX lA w [112,97,114,116,115] _ 1 rfl (by omega),LX lA w [116,114,101,101] _ 2 rfl (by omega),
  LX lA w [119,111,114,100,115] _ 3 rfl (by omega),LX lA w [108,111,115,115,121] _ 4 rfl (by omega)]
 repeat' split
 all_goals rfl
def je:List aF->Option xb
 |[]=>some []
 |s::l=>if (kr s).2 then (je l).map ((kr s).1:: ·) else none
abbrev ajP:=(Int×Int×Int×Int×Int×Int)×Bool
def Gp:ajP:=((0,0,0,0,0,0),false)
def KZ(w:aF):Option xb->ajP
 |some [a,b]=>if 0<=jS w/\jS w≠4 then ((jS w,a,b,0,0,0),true) else Gp
 |some [a,b,c,d,e]=>if jS w=4 then ((4,a,b,u64.wrap e,c,d),true) else Gp
 |_=>Gp
def WE:List aF->ajP
 |[]=>Gp
 |w::l=>KZ w (je l)
theorem L7:∀(l:List aF) (x:xb),je l=some x->x.length=l.length
 |[],x,h=>by cases h;rfl
 |s::l,x,h=>by
  unfold je at h;split at h
  .cases hx:je l with
   |none=>rw [hx] at h;cases h
   |some y=>rw [hx] at h;cases h;simp [L7 l y hx]
  .cases h
theorem akO(w:aF)(n:Int)(x:Option xb)(hx:∀y,x=some y->(y.length:Int)=n)(h:jS w<0\/n+1≠(if jS w=4 then 6 else 3)):KZ w x=Gp:=by
 unfold KZ;split
 next a b=>have:=hx _ rfl;simp only [qb,qe] at this;rw [gZ];rintro ⟨f,g⟩;rw [gZ g] at h;omega
 .rename_i a b c d e;have:=hx _ rfl;simp only [qb,qe] at this;split
  next f=>rw [j5 f] at h;omega
  .rfl
 .rfl
theorem abP(w:aF)(l:List aF)(h:jS w<0\/(l.length+1:Int)≠(if jS w=4 then 6 else 3)):WE (w::l)=Gp:=
 akO w l.length (je l) (λy a=>by rw [L7 l y a]) h
theorem aik{α:Type}(x:α)(l:List α):bB (x::l) 1 (((x::l).length:Nat):Int)=l:=by unfold bB;simp
def put(c:Int×Int×Int×Int×Int)(i:Nat)(x:Int):Int×Int×Int×Int×Int:=match i with
 |0=>(x,c.2.1,c.2.2.1,c.2.2.2.1,c.2.2.2.2)
 |1=>(c.1,x,c.2.2.1,c.2.2.2.1,c.2.2.2.2)
 |2=>(c.1,c.2.1,x,c.2.2.2.1,c.2.2.2.2)
 |3=>(c.1,c.2.1,c.2.2.1,x,c.2.2.2.2)
 |_=>(c.1,c.2.1,c.2.2.1,c.2.2.2.1,x)
theorem aoB(w:aF)(l:List aF)(k:Int)(b:∀s∈l,s.length<4294967296)(N i:Nat)(s:aF)(a:l[i]? =some s)(hi:i<5)(c:Int×Int×Int×Int×Int):
  az (gh (w::l) k) (N+1) (c.1,c.2.1,c.2.2.1,c.2.2.2.1,c.2.2.2.2,(i:Int))=
   if (kr s).2 then az (gh (w::l) k) N ((put c i (kr s).1).1,(put c i (kr s).1).2.1,(put c i (kr s).1).2.2.1,(put c i (kr s).1).2.2.2.1,(put c i (kr s).1).2.2.2.2,((i+1:Nat):Int)) else some Gp:=by
 obtain ⟨e,d⟩:=List.getElem?_eq_some_iff.1 a;rw [Rf];unfold gh;dsimp only;rw [aik,qi (by omega),l5,amn e,d,de,aiv s (b s (mj a)),de];cases hv:(kr s).2 with
 |false=>rfl
 |true=>
  rw [Bool.not_true,kR,j5 rfl,w1 (by omega)]
  match i,hi with
  |0,_=>rfl
  |1,_=>rfl
  |2,_=>rfl
  |3,_=>rfl
  |4,_=>rfl
  |i+5,hi=>omega
theorem apD(w:aF)(l:List aF)(k:Int)(N i:Nat)(hi:i=l.length)(c:Int×Int×Int×Int×Int):
  az (gh (w::l) k) (N+1) (c.1,c.2.1,c.2.2.1,c.2.2.2.1,c.2.2.2.2,(i:Int))=some ((k,c.1,c.2.1,u64.wrap c.2.2.2.2,c.2.2.1,c.2.2.2.1),true):=by
 rw [Rf];unfold gh;dsimp only;rw [aik,p8 (by omega),kR]
def F6:xb->Nat->Int×Int×Int×Int×Int->Int×Int×Int×Int×Int
 |[],_,c=>c
 |x::l,i,c=>F6 l (i+1) (put c i x)
theorem ai4(w:aF)(l:List aF)(k:Int)(a:∀s∈l,s.length<4294967296)(b:l.length<=5):∀(N i:Nat) (c:Int×Int×Int×Int×Int),i<=l.length->l.length+1<=N+i->
  az (gh (w::l) k) N (c.1,c.2.1,c.2.2.1,c.2.2.2.1,c.2.2.2.2,(i:Int))=some (match je (l.drop i) with
   |some xs=>((k,(F6 xs i c).1,(F6 xs i c).2.1,u64.wrap (F6 xs i c).2.2.2.2,(F6 xs i c).2.2.1,(F6 xs i c).2.2.2.1),true)
   |none=>Gp)
 |0,i,c,h1,h2=>by omega
 |N+1,i,c,h1,h2=>by
  by_cases hi:i<l.length
  .rw [aoB w l k a N i l[i] (b7 hi) (by omega) c,qz hi,je];cases hv:(kr l[i]).2 with
   |false=>rfl
   |true=>
    rw [j5 rfl,j5 rfl,ai4 w l k a b N (i+1) (put c i (kr l[i]).1) (by omega) (by omega)];cases je (l.drop (i+1)) <;> rfl
  .rw [apD w l k N i (by omega) c,mo (by omega)];rfl
theorem ahe(i:aF)(p:i.length<4294967296)(n:∀s∈wl i [],s.length<4294967296):eN i=some (WE (wl i [])):=by
 unfold eN;rw [akW i p,de];generalize wl i []=r at n;cases r with
 |nil=>rfl
 |cons w l=>
  have m:(((w::l).length:Nat):Int)=(l.length:Int)+1:=by simp
  rw [show ((((w::l).length:Nat):Int)==0)=false by rw [qC];omega,kR,show idx (w::l) 0=some w from rfl,de,alZ,de];simp only [Fi];have key:∀g:Int,g=(if jS w=4 then 6 else 3)->tJ (w::l) (jS w) g=some (WE (w::l)):=by
   intro g j;unfold tJ;simp only [Fi];by_cases hb:jS w<0\/(l.length+1:Int)≠g
   .rw [abP w l (by rw [<-j];exact hb)];have:(decide (jS w<0)||(((w::l).length:Nat):Int) != g)=true:=by rw [ck,kz,bne_iff_ne,m];exact hb
    rw [this];rfl
   .have u:¬jS w<0:=λh=>hb (.inl h);have q:(l.length+1:Int)=g:=qQ λh=>hb (.inr h);rw [p8 u,show ((((w::l).length:Nat):Int) != g)=false by rw [bne_eq_false_iff_eq,m];exact q,Bool.or_false,kR,apo (by omega) (by rw [m];omega) (by omega),kY];have t:l.length<=5:=by split at j <;> omega
    have:=ai4 w l (jS w) (λs o=>n s (.tail _ o)) t aB 0 (0,0,0,0,0) (by omega) (Ml (by omega));refine Eq.trans this ?_;rw [l9];show _=some (KZ w (je l));cases hx:je l with
    |none=>rfl
    |some xs=>
     have f:=L7 _ _ hx;by_cases k:jS w=4
     .rw [j5 k] at j
      match xs,f with
      |[a,b,c,d,e],_=>show _=some (if jS w=4 then _ else _);rw [j5 k,k];rfl
      |[],f|[_],f|[_,_],f|[_,_,_],f|[_,_,_,_],f|_::_::_::_::_::_::_,f=>simp at f;omega
     .rw [gZ k] at j
      match xs,f with
      |[a,b],_=>show _=some (if 0<=jS w/\jS w≠4 then _ else _);rw [j5 ⟨by omega,k⟩];rfl
      |[],f|[_],f|_::_::_::_,f=>simp at f;omega
  by_cases k:jS w=4
  .rw [k,beq_self_eq_true,l5,<-k];exact key 6 (by rw [j5 k])
  .rw [beq_eq_false_iff_ne.2 k,kR];exact key 3 (by rw [gZ k])
end To
namespace To
open Go.Lib
theorem apx:∀u:Nat,u<10->dn (u:Int) (u64.wrap ((u:Int)+1)) 10=true/\cut [48,49,50,51,52,53,54,55,56,57] (u:Int) (u64.wrap ((u:Int)+1))=[UInt8.ofNat (48+u)]:=by decide
theorem aa8:∀(N u:Nat),u<18446744073709551616->u<N->az (λk (s:Int)=>dv k s) N (u:Int)=some (decDigits u)
 |0,u,_,h=>by omega
 |N+1,u,hb,h=>by
  rw [Rf];have ih:∀v:Nat,v<18446744073709551616->v<N->az (λk (s:Int)=>dv k s) N (v:Int)=some (decDigits v):=aa8 N;generalize az (λk (s:Int)=>dv k s) N=f at ih ⊢;show dv _ _=_;unfold dv;rw [decDigits];by_cases a:u<10
  .obtain ⟨d,c⟩:=apx u a;rw [p8 (by omega),kR,dif_pos a];show aI (dn (u:Int) _ 10) _=_;rw [d,kY,c]
  .rw [qi (by omega),l5,dif_neg a];have w1:u64.wrap (Int.tdiv (u:Int) 10)=((u/10:Nat):Int):=by rw [Int.tdiv_eq_ediv_of_nonneg (by omega)];show ((u:Int)/10)%18446744073709551616=_;omega
   have b:Int.tmod (u:Int) 10=((u%10:Nat):Int):=by rw [Int.tmod_eq_emod_of_nonneg (by omega)];omega
   have e:=nDigits_le20 (u/10) (by omega);rw [w1,b,ih (u/10) (by omega) (by omega),ih (u%10) (by omega) (by omega),de,de,decDigits_one (qW _ (by omega)),
    wK (by rw [decDigits_length];simp;omega),kY]
theorem ao9(n:Int)(c: -9223372036854775808<=n)(b:n<=9223372036854775807):dX n=some (itoa n):=by
 unfold dX itoa iW;by_cases h:n<0
 .have e:u64.wrap (0-u64.wrap n)=((n.natAbs:Nat):Int):=by show (0-n%18446744073709551616)%18446744073709551616=_;omega
  have a:=nDigits_le20 n.natAbs (by omega);rw [qi h,l5,j5 h,e,aa8 aB n.natAbs (by omega) (by show _<18446744073709551616;omega),de,wK (by rw [decDigits_length];simp;omega),kY];rfl
 .have e:u64.wrap n=((n.toNat:Nat):Int):=by show n%18446744073709551616=_;omega
  rw [p8 h,kR,gZ h,e,aa8 aB n.toNat (by omega) (by show _<18446744073709551616;omega),de]
def i64(n:Int):Prop:= -9223372036854775808<=n/\n<=9223372036854775807
end To
namespace To
open Go.Lib
abbrev VT:=Int×Int×Int×xb×(List xb×List xb)
def J(L:List aF):aF:=L.flatMap λw=>w++[10]
def cG(v:VT):aF:=if v.1=1 then [104,111,108,100,115] else if v.1=2 then [118,105,111,108,97,116,101,100] else if v.1=3 then [110,111,116,104,105,110,103] else aoz [101,114,114,111,114] [v.2.1,v.2.2.1]
def few(l:List xb):Prop:=l.length<=20/\∀x∈l,x.length<=40/\∀n∈x,i64 n
structure OkV(v:VT):Prop where
 e:i64 v.2.1
 a:i64 v.2.2.1
 st:v.2.2.2.1.length<=40/\∀n∈v.2.2.2.1,i64 n
 s:few v.2.2.2.2.1
 c:few v.2.2.2.2.2
section
variable {v : VT} (hv : OkV v)
include hv
end
end To
namespace To
open Go.Lib
section
variable {v : VT} (hv : OkV v)
include hv
end
theorem RO:∀(l cur:aF),∀w∈wl l cur,w.length<=cur.length+l.length
 |[],cur,w,a=>by
  rw [wl] at a;split at a
  .cases a
  .rw [List.mem_singleton.1 a];simp
 |b::l,cur,w,a=>by
  rw [wl] at a;split at a
  .split at a
   .have:=RO l [] w a;simp at this ⊢; omega
   .rcases List.mem_cons.1 a with rfl|a
    .simp
    .have:=RO l [] w a;simp at this ⊢; omega
  .have:=RO l _ w a;simp at this ⊢; omega
theorem ait(a:aF)(c:a.length<4294967296):eN a=some (WE (wl a [])):=ahe a c λs b=>by have:=RO a [] s b;simp at this;omega
end To
namespace To
theorem anX:jB=some true:=by kernel_rfl
end To
namespace To
open Go.Lib
theorem abA{s:aF}(a:(kr s).2=false):∀l:List aF,je (l++[s])=none
 |[]=>by simp [je,a]
 |x::l=>by rw [du,je,abA a l];split <;> rfl
theorem ak9(a s:aF)(hb:nb s)(b:s≠[])(c:(kr s).2=false)(d:jS s= -1):WE (wl (a++32::s) [])=Gp:=by
 rw [Mo,aiR hb b];cases wl a [] with
 |nil=>exact abP s [] (.inl (by rw [d];decide))
 |cons w l=>show KZ w (je (l++[s]))=Gp;rw [abA c l];rfl
end To
namespace To
open Go.Lib
theorem ahH(u:Nat):nb (decDigits u):=λb hb e=>by subst e;have:=(anD u _ hb).1;simp at this
theorem Fh(a b:Nat)(c:0<b):Int.tmod (a:Int) (b:Int)=((a%b:Nat):Int):=by rw [Int.tmod_eq_emod_of_nonneg (by omega)];omega
theorem amv(x:Nat)(h:x<9223372036854775808):dX (x:Int)=some (decDigits x):=by rw [ao9 _ (by omega) (by omega)];unfold itoa;rw [gZ (by omega),qn]
theorem aay(x:Nat)(h:x<1000000000):(decDigits x).length<=9:=by
 rw [decDigits_length];have key:∀(k u:Nat),u<10^(k+1)->nDigits u<=k+1:=by
  intro k
  induction k with
  |zero=>intro u a;rw [nDigits,dif_pos (by omega)];omega
  |succ k ih=>
   intro u a;rw [nDigits];split
   .omega
   .have:u/10<10^(k+1):=by rw [Nat.div_lt_iff_lt_mul (by omega)];rw [Nat.pow_succ] at a;exact a
    have:=ih _ this;omega
 exact key 8 x h
theorem aaV(k x:Nat)(h:k+(decDigits x).length<=9):kr (List.replicate k 48++decDigits x)=((x:Int),true):=by have hp:0<(decDigits x).length:=List.length_pos_iff.2 (aa1 x);unfold kr aky;rw [gZ (by rw [cj,List.length_replicate];omega),ai8,ajU]
def ws(s t:aF)(k:Nat):List aF:=(List.range k).map λj=>if j%2=0 then s else t
def xs(x y:Int)(k:Nat):xb:=(List.range k).map λj=>if j%2=0 then x else y
theorem aav{α:Type}(f:α->aF)(g:α->Int)(h:∀j,kr (f j)=(g j,true)):∀l:List α,je (l.map f)=some (l.map g)
 |[]=>rfl
 |a::l=>by rw [cp,je,aav f g h l,h a];rfl
theorem anJ{s t:aF}{x y:Int}(b:kr s=(x,true))(a:kr t=(y,true))(k:Nat):je (ws s t k)=some (xs x y k):=
 aav _ _ (λj=>by by_cases h:j%2=0 <;> simp only [h,qp,qA,b,a]) _
theorem aqa(s t:aF)(k:Nat):ws s t (k+1)=ws s t k++[if k%2=0 then s else t]:=by unfold ws;rw [List.range_succ,qR];rfl
theorem akv(x y:Int):∀k:Nat,k<8->KZ [116,114,101,101] (some (xs x y k))=if k=2 then ((2,x,y,0,0,0),true) else Gp
 |0,_|1,_|2,_|3,_|4,_|5,_|6,_|7,_=>rfl
 |k+8,h=>by omega
theorem ajs(x y:Int):∀k:Nat,k<8->KZ [108,111,115,115,121] (some (xs x y k))=if k=5 then ((4,x,y,u64.wrap x,x,y),true) else Gp
 |0,_|1,_|2,_|3,_|4,_|5,_|6,_|7,_=>rfl
 |k+8,h=>by omega
section
variable {a b c d : Nat} {lossy : Bool} (ha : a < 4294967296) (hb : b < 4294967296) (hc : c < 256) (hd : d < 256)
include ha hb hc hd
omit hc in
theorem N3(s w:aF)(g:Int)(u:kr s=(((a%1000000000:Nat):Int),true))(n:nb s)(l:s≠[])(m:s.length<=9)
  (r:(w,g)=if lossy then ([108,111,115,115,121],(5:Int)) else ([116,114,101,101],2)):∀(N i:Nat) (f:aF),i<=d%8->d%8+1<=N+i->f.length<=10+i*20->
  wl f []=w::ws s (decDigits (b%1000000000)) i->az (gL ((a:Int),(b:Int),(c:Int),(d:Int),lossy) true s g) N (f,(i:Int))=some true
 |0,i,f,h1,h2,_,_=>by omega
 |N+1,i,f,h1,h2,h3,h4=>by
  have B:Int.tmod (IntKind.i64.wrap (a:Int)) 1000000000=((a%1000000000:Nat):Int):=by rw [yv (by omega)];exact Fh a 1000000000 (by omega)
  have v:Int.tmod (IntKind.i64.wrap (b:Int)) 1000000000=((b%1000000000:Nat):Int):=by rw [yv (by omega)];exact Fh b 1000000000 (by omega)
  have A:Int.tmod (IntKind.i64.wrap (d:Int)) 8=((d%8:Nat):Int):=by rw [yv (by omega)];exact Fh d 8 (by omega)
  have C:Int.tmod (i:Int) 2=((i%2:Nat):Int):=Fh i 2 (by omega);have p:=aay (b%1000000000) (qW _ (by omega));have k:=aaV 0 (b%1000000000) (by omega);rw [List.replicate_zero,oi] at k;rw [Rf];show (bif (decide ((i:Int)<Int.tmod (IntKind.i64.wrap (d:Int)) 8)) then _ else _)=_;rw [A];have h:∀q:aF,nb q->q≠[]->q.length<=9->q=(if i%2=0 then s else decDigits (b%1000000000))->i<d%8->
    az (gL ((a:Int),(b:Int),(c:Int),(d:Int),lossy) true s g) N (((f++[32])++q),((i+1:Nat):Int))=some true:=λq y t x z hi=>by
   refine N3 s w g u n l m r N (i+1) _ (by omega) (by omega) (by simp;omega) ?_;rw [aO,qa,Mo,h4,aiR y t,aqa,<-z];rfl
  by_cases hi:i<d%8
  .rw [qi (by omega),l5,C,w1 (by omega)];by_cases hp:i%2=0
   .rw [hp,show ((((0:Nat):Int))==0)=true from rfl,l5,wK (by simp;omega),kY,wK (by simp;omega),kY];exact h s n l m (by rw [j5 hp]) hi
   .rw [show (((i%2:Nat):Int)==0)=false by rw [qC];omega,kR,wK (by simp;omega),kY];rw [show Int.tmod (IntKind.i64.wrap ((a:Int),(b:Int),(c:Int),(d:Int),lossy).2.1) 1000000000=((b%1000000000:Nat):Int) from v,amv _ (by omega),de,wK (by simp;omega),kY];exact h _ (ahH _) (aa1 _) p (by rw [gZ hp]) hi
  .have o:i=d%8:=by omega
   rw [p8 (by omega),kR,ait f (by omega),de,wK (by simp;omega),kY,
    show f++([32,49,50,51,52,53,54,55,56,57,48]:aF)=f++32::[49,50,51,52,53,54,55,56,57,48] from rfl,ait _ (by simp;omega),de,
    ak9 f [49,50,51,52,53,54,55,56,57,48] (by intro b hb e;subst e;revert hb;decide) (by decide) (by decide) (by decide),h4]
   simp only [Fi];rw [show WE (w::ws s (decDigits (b%1000000000)) i)=KZ w (je (ws s (decDigits (b%1000000000)) i)) from rfl,anJ u k,show Gp.2=false from rfl];simp only [B,v];cases lossy with
   |true=>
    obtain ⟨rfl,rfl⟩:w=[108,111,115,115,121]/\g=5:=by simpa using r
    rw [ajs _ _ i (by omega)];by_cases j:i=5
    .rw [j5 j,<-o,j];simp
    .rw [gZ j,<-o,show (((i:Nat):Int)==5)=false by rw [qC];omega];rfl
   |false=>
    obtain ⟨rfl,rfl⟩:w=[116,114,101,101]/\g=2:=by simpa using r
    rw [akv _ _ i (by omega)];by_cases j:i=2
    .rw [j5 j,<-o,j];simp
    .rw [gZ j,<-o,show (((i:Nat):Int)==2)=false by rw [qC];omega];rfl
theorem N1:∀(N i k:Nat),i<=9->10<=N+i->k+(decDigits (a%1000000000)).length<=9->
  az (eY ((a:Int),(b:Int),(c:Int),(d:Int),lossy) true) N (List.replicate k 48++decDigits (a%1000000000),(i:Int))=some true
 |0,i,k,h1,h2,_=>by omega
 |N+1,i,k,h1,h2,h3=>by
  have n:Int.tmod (IntKind.i64.wrap (c:Int)) 9=((c%9:Nat):Int):=by rw [yv (by omega)];exact Fh c 9 (by omega)
  have ih:=N1 N (i+1) (k+1);rw [Rf];generalize az (eY ((a:Int),(b:Int),(c:Int),(d:Int),lossy) true) N=f at ih ⊢;unfold eY;simp only [Fi];rw [n];by_cases hi:i<c%9/\k+(decDigits (a%1000000000)).length<9
  .rw [qi (by omega),qi (by simp;omega),Bool.and_true,l5,wK (by simp;omega),kY,w1 (by omega)];have:=ih (by omega) (by omega) (by omega);rw [qf,du] at this;exact this
  .have:(decide ((i:Int)<((c%9:Nat):Int))&&decide (((List.replicate k 48++decDigits (a%1000000000)).length:Int)<9))=false:=by rw [Bool.and_eq_false_iff,decide_eq_false_iff_not,decide_eq_false_iff_not];simp only [cj,List.length_replicate];omega
   rw [this,kR];have j:nb (List.replicate k 48++decDigits (a%1000000000)):=λb hb=>by
    rcases List.mem_append.1 hb with hb|hb
    .rw [(List.mem_replicate.1 hb).2];decide
    .exact ahH _ b hb
   have g:∀(w:aF) (e:Int),((w,e)=if lossy then ([108,111,115,115,121],(5:Int)) else ([116,114,101,101],2))->w.length<=10->wl w []=[w]->gK ((a:Int),(b:Int),(c:Int),(d:Int),lossy) true (List.replicate k 48++decDigits (a%1000000000)) w e=some true:=λw e m l h=>by unfold gK;exact N3 ha hb hd _ w e (aaV k _ h3) j (by simp [aa1]) (by simp;omega) m aB 0 w (by omega) (Ml (by omega)) (by omega) (by rw [h];rfl)
   cases lossy with
   |true=>exact g [108,111,115,115,121] 5 rfl (by decide) (by decide)
   |false=>exact g [116,114,101,101] 2 rfl (by decide) (by decide)
theorem ajm:eo ((a:Int),(b:Int),(c:Int),(d:Int),lossy)=some true:=by
 have e:Int.tmod (IntKind.i64.wrap (a:Int)) 1000000000=((a%1000000000:Nat):Int):=by rw [yv (by omega)];exact Fh a 1000000000 (by omega)
 unfold eo;rw [anX,de];rw [show Int.tmod (IntKind.i64.wrap ((a:Int),(b:Int),(c:Int),(d:Int),lossy).1) 1000000000=((a%1000000000:Nat):Int) from e,amv _ (by omega),de];exact N1 ha hb hc hd aB 0 0 (by omega) (Ml (by omega)) (by have:=aay (a%1000000000) (qW _ (by omega));omega)
end
theorem abZ(w:Int×Int×Int×Int×Bool)(h:0<=w.1/\w.1<=4294967295)(g:0<=w.2.1/\w.2.1<=4294967295)(f:0<=w.2.2.1/\w.2.2.1<=255)(e:0<=w.2.2.2.1/\w.2.2.2.1<=255):eo w=some true:=by obtain ⟨a,b,c,d,l⟩:=w;obtain ⟨a,rfl⟩:∃n:Nat,a=(n:Int):=⟨a.toNat,by simp only at h;omega⟩;obtain ⟨b,rfl⟩:∃n:Nat,b=(n:Int):=⟨b.toNat,by simp only at g;omega⟩;obtain ⟨c,rfl⟩:∃n:Nat,c=(n:Int):=⟨c.toNat,by simp only at f;omega⟩;obtain ⟨d,rfl⟩:∃n:Nat,d=(n:Int):=⟨d.toNat,by simp only at e;omega⟩;simp only at h g f e;exact ajm (by omega) (by omega) (by omega) (by omega)
end To
namespace To
open Go.Lib
abbrev IU(p:UInt8×xb):aF:=aoz [p.1] p.2
section
variable {v : VT} (hv : OkV v)
include hv
end
end To
variable {P : Program} {w : World}
open Go.Lib Go.ChangeAt Go.ChangeShapes Go.WideShapes Go.RowKit
theorem Vh{P:Program}{w:World}:∀(l:List (String×DataW Unit)) (ps:List MemPlace),DataW.LaidVars P w l ps->∀(i:Nat) (n:String) (d:DataW Unit),l[i]? =some (n,d)->
  ∃g t cs a p,P.globalNamed n=some g/\(P.globals[g]?).map (·.type)=some t/\w.var? P n=some cs/\DataW.trod (λ_=>()) P w 0 (λ_=>true) false a t cs.toList=some (d,p)
 |[],_,_,i,n,d,h=>by simp at h
 |(n0,d0)::l,ps,h,i,n,d,hi=>by
  obtain ⟨g,t,cs,a,p,q,j,f,e,c,b,_⟩:=h;cases i with
  |zero=>
   simp only [c5,b5,n5] at hi;obtain ⟨rfl,rfl⟩:=hi;exact ⟨g,t,cs,a,p,j,f,e,c⟩
  |succ i=>exact Vh l q b i n d (by simpa using hi)
theorem Yl{H:Type}{enc:TypeId×Value->H}{f:Nat}{q:Nat->Bool}{d:Bool}{a:Nat}{t e:TypeId}{n:Nat}{cs:vf}{zs:List aF}{p:List MemPlace}
  (u:P.underlying t=some (.array n e)) (x:P.underlying e=some .string) (l:P.cellsOf e=1) (k:P.cellsOf t=n)
  (h:DataW.trod enc P w f q d a t cs=some (.agg (zs.map λz=> .lit (.string z)),p)):cs=zs.map S:=by
 cases a with
 |zero=>simp [DataW.trod] at h
 |succ a=>
  simp only [DataW.trod,u,l,k,q5] at h;split at h
  .rename_i B;obtain ⟨xs,o,hx⟩:=Option.map_eq_some_iff.1 h;have c:xs.map (·.1)=zs.map λz=>(DataW.lit (.string z):DataW H):=by have:=congrArg Prod.fst hx;simpa using this
   have s:xs.length=n:=by simpa using mapM_length o
   have r:zs.length=n:=by have:=congrArg List.length c;simp at this;omega
   apply qm;intro i;by_cases hi:i<n
   .obtain ⟨b,hb,v⟩:=mapM_at o i i (by simp [hi]);obtain ⟨z,hc,rfl,_⟩:=DataW.trod_string x v;have y:cs[i]? =some (.string z):=by have:=congrArg (·[0]?) hc;simpa [gj,et] using this
    have m:(xs.map (·.1))[i]? =some (DataW.lit (.string z.data.toList):DataW H):=by simp [hb]
    rw [c] at m;simp only [l7,Option.map_eq_some_iff,DataW.lit.injEq,Lit.string.injEq] at m;obtain ⟨A,j,g⟩:=m;subst g;simp [y,j,S]
   .rw [e9 (by omega),e9 (by simp;omega)]
  .cases h
theorem afV{a:List (String×DataW Unit)}(b:(a.filter λx=>x.2.handleName?.isSome)=[])(h:laidMetH P a w):laidMet P a w:=by unfold laidMetH at h;rw [b] at h;exact h
theorem Mt{a:List (String×DataW Unit)}{Γ:Ctx}(h:laidMet P a w)(i:Nat){n:String}{zs:List aF}{g:Nat}{t e:TypeId}{k:Nat}
  (hi:a[i]? =some (n,.agg (zs.map λz=> .lit (.string z)))) (m:P.globalNamed n=some g) (b:(P.globals[g]?).map (·.type)=some t)
  (q:P.underlying t=some (.array k e)) (s:P.underlying e=some .string) (l:P.cellsOf e=1) (j:P.cellsOf t=k) (u:¬ Γ.M g):(gl g (zs.map S)).P Γ.M w:=by
 obtain ⟨ps,r,_⟩:=h;obtain ⟨g',t',cs,o,p,f,d,hv,hd⟩:=Vh _ _ r i n _ hi;obtain rfl:=n9 (m.symm.trans f);obtain rfl:=n9 (b.symm.trans d);have v:=Yl q s l j hd;refine ⟨u,?_⟩;unfold World.var? at hv;rw [m] at hv;simp only [de] at hv;split at hv
 next c ty fr hb=>obtain rfl:=n9 hv;exact ⟨ty,fr,by rw [hb,<-v]⟩
 .cases hv
theorem ank{a:List (String×DataW Unit)}{Γ:Ctx}(h:laidMet P a w)(i:Nat){n:String}{kd:IntKind}{zs:xb}{g:Nat}{t e:TypeId}{k:Nat}
  (hi:a[i]? =some (n,tabData kd zs)) (m:P.globalNamed n=some g) (b:(P.globals[g]?).map (·.type)=some t)
  (q:P.underlying t=some (.array k e)) (s:P.underlying e=some (.int kd)) (l:P.cellsOf e=1) (j:P.cellsOf t=k) (u:¬ Γ.M g):(gl g (zs.map (Value.int kd))).P Γ.M w:=by
 obtain ⟨ps,r,_⟩:=h;obtain ⟨g',t',cs,o,p,f,d,hv,hd⟩:=Vh _ _ r i n _ hi;obtain rfl:=n9 (m.symm.trans f);obtain rfl:=n9 (b.symm.trans d);have v:=cells_of_tab q s l j hd;refine ⟨u,?_⟩;unfold World.var? at hv;rw [m] at hv;simp only [de] at hv;split at hv
 next c ty fr hb=>obtain rfl:=n9 hv;exact ⟨ty,fr,by rw [hb,<-v]⟩
 .cases hv
def GB(Γ:Ctx):Prop:= ∀b,¬ Γ.M b
theorem ae0:GB []:=λb h=>by obtain ⟨it,h,_⟩:=h;cases h
theorem su{it:Item}{Γ:Ctx}(hp:it.own=[])(h:GB Γ):GB (it::Γ):=λb hb=>by
 rcases Ctx.AY.1 hb with a|a
 .rw [hp] at a;cases a
 .exact h b a
theorem aja(w:World):Sat [kept w (λ_=>False)] w:=Sat.nil.add rfl ⟨fL.refl w,bb _,λb _ _=>⟨ae0 b,rfl⟩⟩
theorem ahS(w:World):GB [kept w (λ_=>False)]:=su rfl ae0
theorem akA{Γ:Ctx}(h:GB Γ):Mv (λ_=>False) w Γ.M w:=⟨bb _,λb _ _=>⟨h b,rfl⟩⟩
theorem ais{w':World}{Γ:Ctx}{i:Nat}(h:Sat Γ w')(hi:Γ[i]? =some (kept w (λ_=>False))):Below w.heap.size w w':=by obtain ⟨a,d,c⟩:=h.kept hi;exact ⟨a.os,a.tape,a.output,d,λk b=>(c k b (λh=>h)).2⟩
theorem Uw{Y:Type}(R:Nat->Y->Ex->Prop):∀(ys:List Y),(∀i y,ys[i]? =some y->∃e,R i y e)->∃l:List Ex,l.length=ys.length/\∀i y e,ys[i]? =some y->l[i]? =some e->R i y e
 |[],_=>⟨[],rfl,λi y e h=>by simp at h⟩
 |y::ys,h=>by
  obtain ⟨e,f⟩:=h 0 y rfl;obtain ⟨l,d,c⟩:=Uw (λi=>R (i+1)) ys (λi y a=>h (i+1) y (by simpa using a));refine ⟨e::l,by simp [d],λi b e' a hx=>?_⟩;cases i with
  |zero=>
   simp only [c5,b5] at a hx;subst a;subst hx;exact f
  |succ i=>exact c i b e' (by simpa using a) (by simpa using hx)
theorem aib{H:Type}:∀(l:List Ex) (ds:List (DataW H)),l.length=ds.length->(∀(i:Nat) (e:Ex) (d:DataW H),l[i]? =some e->ds[i]? =some d->e.sz<=Rows.uptoBulk d)->szL l<=Rows.uptoBulkAll ds
 |[],[],_,_=>bb _
 |e::l,d::ds,hl,h=>by
  have c:=h 0 e d rfl rfl;have b:=aib l ds (by simpa using hl) (λi e d a hd=>h (i+1) e d (by simpa using a) (by simpa using hd));simp only [szL,Rows.uptoBulkAll];omega
 |[],_::_,h,_=>by simp at h
 |_::_,[],h,_=>by simp at h
theorem Qu{H:Type}(d:DataW H):1<=Rows.uptoBulk d:=by
 cases d with
 |lit l=>cases l <;> simp [Rows.uptoBulk]
 |nil=>simp [Rows.uptoBulk]
 |ptr d=>simp [Rows.uptoBulk]
 |slice e b=>simp [Rows.uptoBulk]
 |agg c=>simp [Rows.uptoBulk]
 |iface t d=>simp [Rows.uptoBulk]
 |map a=>simp [Rows.uptoBulk]
 |held h=>simp [Rows.uptoBulk]
theorem CG{H:Type}{d:DataW H}:∀{l:List (DataW H)},d∈l->Rows.uptoBulk d<=Rows.uptoBulkAll l
 |x::r,h=>by
  simp only [Rows.uptoBulkAll];rcases List.mem_cons.1 h with rfl|h
  .omega
  .have:=CG h;omega
structure aiy(P:Program)(t:TypeId):Prop where
 fields:∃(fs:Array Field) (f0 f1 f2 f3:Field),P.underlying t=some (.struct fs)/\fs.size=4/\fs[0]? =some f0/\fs[1]? =some f1/\fs[2]? =some f2/\fs[3]? =some f3/\
  (f0.offset=0/\P.underlying f0.type=some (.int .i64)/\P.cellsOf f0.type=1)/\(f1.offset=1/\P.underlying f1.type=some (.int .i64)/\P.cellsOf f1.type=1)/\
  (f2.offset=2/\P.underlying f2.type=some (.int .i64)/\P.cellsOf f2.type=1)/\(f3.offset=3/\P.underlying f3.type=some (.slice t)/\P.cellsOf f3.type=1)
 cells:P.cellsOf t=4
theorem aoR{a:Nat}{t:TypeId}{v:Value}{c:Array Field}(b:P.underlying t=some (.struct c))(h:Value.okWide P w .any a t v):
  ∃cs,v= .agg cs/\cs.size=P.cellsOf t/\Row.okWide P w .any a t cs:=by
 unfold Value.okWide at h;rw [b] at h;exact h
theorem agr{a:Addr}{v:Value}(h:w.cell? a=some v):a.spot=none/\∃cs e fr,w.heap[a.block]? =some (.cells cs e fr)/\cs[a.off]? =some v:=by
 unfold World.cell? at h;split at h
 .rename_i cs e fr hb;split at h
  .cases h
  next b=>exact ⟨by simpa using b,cs,e,fr,hb,h⟩
 .cases h
theorem ahk{H:Type}{enc:TypeId×Value->H}{W:World}{t:TypeId}(L:aiy P t):∀(o:Nat) (cs:vf) (x:DataW H×List MemPlace),
  DataW.trod enc P W 0 (λ_=>true) true o t cs=some x->∃e,uJ (λ_=>False) W cs e/\e.sz<=Rows.uptoBulk x.1:=by
 intro o
 induction o using Nat.strongRecOn with
 |ind o ih=>
 intro cs x h;obtain ⟨⟨fs,f0,f1,f2,f3,hT,hsz,g0,g1,g2,g3,⟨o0,u0,c0⟩,⟨o1,u1,c1⟩,⟨o2,u2,c2⟩,⟨o3,u3,c3⟩⟩,hc⟩:=L;obtain ⟨xs,n,rfl,rfl,hl,C,V⟩:=DataW.trod_struct hT h;rw [hc] at hl;rw [hsz] at C;obtain ⟨a0,U,T,B,rfl⟩:∃a0 U T B,cs=[a0,U,T,B]:=by
  match cs,hl with
  |[a,b,c,d],_=>exact ⟨a,b,c,d,rfl⟩
 obtain ⟨x0,x1,x2,z,rfl⟩:∃a0 U T B,xs=[a0,U,T,B]:=by
  match xs,C with
  |[a,b,c,d],_=>exact ⟨a,b,c,d,rfl⟩
 have Y:=V 0 f0 g0;have t1:=V 1 f1 g1;have t2:=V 2 f2 g2;have X:=V 3 f3 g3;rw [o0,c0] at Y;rw [o1,c1] at t1;rw [o2,c2] at t2;rw [o3,c3] at X;simp only [l9,qO,List.take_zero,List.drop_succ_cons,c5,b9] at Y t1 t2 X;obtain ⟨w,e0,_,_⟩:=DataW.trod_int u0 Y;obtain ⟨v,e1,_,_⟩:=DataW.trod_int u1 t1;obtain ⟨u,e2,_,_⟩:=DataW.trod_int u2 t2;obtain rfl:a0= .int .i64 w:=by simpa using e0
 obtain rfl:U= .int .i64 v:=by simpa using e1
 obtain rfl:T= .int .i64 u:=by simpa using e2
 have hb:∀d,z.1=d->Rows.uptoBulk d+1<=Rows.uptoBulk (DataW.agg ([x0,x1,x2,z].map (·.1))):=λd hd=>by subst hd;have:=CG (d:=z.1) (l:=[x0,x1,x2,z].map (·.1)) (by simp);simp only [Rows.uptoBulk];omega
 rcases DataW.trod_slice u3 X with ⟨p,D⟩|⟨a,len,cap,f,rest,m,rfl,p,D,_,hlc,_,I,N,hsp,_⟩
 .obtain rfl:B= .slice none 0 0:=by simpa using p
  refine ⟨.mk w v u [],.nil w v u none,?_⟩;have:=hb _ rfl;have:=Qu z.1;simp only [Ex.sz,szL];omega
 .obtain rfl:B= .slice (some a) len cap:=by simpa using p
  obtain ⟨hrl,F⟩:=hsp rfl;rw [hc] at N F
  -- all of it is there
  have cell:∀i,i<cap->∃us y,W.cells? 0 (a.add (i*4)) 4=some us/\us.length=4/\(∀j,j<4->W.cell? ((a.add (i*4)).add j)=us[j]?)/\DataW.trod enc P W 0 (λ_=>true) true m t us=some y/\(i<len->f[i]? =some y):=λi hi=>by
   by_cases K:i<len
   .obtain ⟨y,q⟩:∃y,f[i]? =some y:=⟨f[i]'(by omega),b7 _⟩;have:=N i K;rw [q,qE] at this;obtain ⟨us,A,R⟩:=this;obtain ⟨_,p,s⟩:=World.cells?_some A;exact ⟨us,y,A,p,s,R,λ_=>q⟩
   .obtain ⟨y,q⟩:∃y,rest[i-len]? =some y:=⟨rest[i-len]'(by omega),b7 _⟩;have:=F (i-len) (by omega);rw [q,qE] at this;obtain ⟨us,A,R⟩:=this;have e:len+(i-len)=i:=by omega
    rw [e] at A;obtain ⟨_,p,s⟩:=World.cells?_some A;exact ⟨us,y,A,p,s,R,λh=>absurd h K⟩
  by_cases O:cap=0
  .subst O;obtain rfl:len=0:=by omega
   refine ⟨.mk w v u [],.nil w v u (some a),?_⟩;have:=hb _ rfl;have:=Qu z.1;simp only [Ex.sz,szL];omega
  .obtain ⟨us0,_,_,hl0,hc0,_⟩:=cell 0 (by omega);have S:=hc0 0 (by omega);rw [b7 (by omega)] at S;obtain ⟨hs,k,e',fr,Q,_⟩:=agr S;have E:a.spot=none:=by simpa [Addr.add] using hs
   have g:W.heap[a.block]? =some (.cells k e' fr):=by simpa [Addr.add] using Q
   obtain ⟨b,off,sp⟩:=a;simp only at E g;subst E;have at_:∀i j,((⟨b,off,none⟩:Addr).add (i*4)).add j=⟨b,off+i*4+j,none⟩:=λi j=>by unfold Addr.add;split <;> split <;> simp_all
   have r:∀i,i<cap->∃us y,us.length=4/\(∀j,j<4->k[off+i*4+j]? =us[j]?)/\DataW.trod enc P W 0 (λ_=>true) true m t us=some y/\(i<len->f[i]? =some y):=λi hi=>by obtain ⟨us,y,_,p,s,h5,h6⟩:=cell i hi;refine ⟨us,y,p,λj J=>?_,h5,h6⟩;have:=s j J;rw [at_] at this;simpa [World.cell?,g] using this
   have hsize:off+cap*4<=k.size:=by obtain ⟨us,_,p,s,_⟩:=r (cap-1) (by omega);have:=s 3 (by omega);rw [b7 (by omega)] at this;have:=(Array.getElem?_eq_some_iff.1 this).1;omega
   have M:∀i y,f[i]? =some y->∃e,(uJ (λ_=>False) W (((k.toList.drop off).drop (i*4)).take 4) e/\e.sz<=Rows.uptoBulk y.1):=λi y q=>by
    have hi:i<len:=by rw [<-I];exact (List.getElem?_eq_some_iff.1 q).1
    obtain ⟨us,y',p,s,h5,h6⟩:=r i (by omega);obtain rfl:y'=y:=by have:=h6 hi;rw [q] at this;exact (n9 this).symm
    have Z:((k.toList.drop off).drop (i*4)).take 4=us:=by
     apply qm;intro j;by_cases J:j<4
     .rw [gj,j5 J,et,et,<-s j J];simp [qo]
     .rw [gj,gZ J,e9 (by omega)]
    rw [Z];exact ih m (by omega) us y' h5
   obtain ⟨l,hll,hR⟩:=Uw (λi y e=>uJ (λ_=>False) W (((k.toList.drop off).drop (i*4)).take 4) e/\e.sz<=Rows.uptoBulk y.1) f M;have G:l.length=len:=by omega
   refine ⟨.mk w v u l,?_,?_⟩
   .rw [<-G];refine .some w v u l b off cap k e' fr (λh=>h) g (by omega) (by omega) ?_ (λi hi=>?_)
    .simp only [bj,ch,cb];omega
    .obtain ⟨y,q⟩:∃y,f[i]? =some y:=⟨f[i]'(by omega),b7 _⟩;have:=(hR i y l[i] q (b7 _)).1;rw [pc,lk];have e4:min 4 (l.length*4-i*4)=4:=by omega
     rw [e4];exact this
   .have A:=aib l (f.map (·.1)) (by simp [hll]) (λi e d he hd=>by rw [l7,Option.map_eq_some_iff] at hd;obtain ⟨y,q,rfl⟩:=hd;exact (hR i y e q he).2)
    have R:z.1= .slice (f.map (·.1)) (rest.map (·.1)):=by rw [D]
    have p:=hb _ R;simp only [Ex.sz];have s:Rows.uptoBulk (DataW.slice (f.map (·.1)) (rest.map (·.1)))=Rows.uptoBulkAll (f.map (·.1))+Rows.uptoBulkAll (rest.map (·.1))+1:=by simp only [Rows.uptoBulk]
    omega
variable {Q : Nat -> Prop} {W : World}
open Go.ChangeMaps (open_string)
def pY:Ty->sv
 | .p a b=>pY a++pY b
 | .l _|.ex=>[none]
 |_=>[]
def apk:Ty->Pt
 | .i k=> .int k
 | .bo=> .bool
 | .s=> .str
 | .l t=> .sli t
 |t=> .dat t (pY t)
def LI(Q:Nat->Prop):(t:Ty)->t.T->Prop
 | .i k,x=>(Lit.int k x).wf=true
 | .s,x=>x.length<=9223372036854775807
 | .p a b,x=>LI Q a x.1/\LI Q b x.2
 | .l t,x=>(List.length (α:=t.T) x<=9223372036854775807/\Q (List.length (α:=t.T) x))/\∀y:t.T,List.Mem y x->LI Q t y
 | .ex,x=>Q x.sz
 |_,_=>True
def K3(P:Program)(t:TypeId):Bool:=(match P.underlying t with
 |some (.int .i64)=>true
 |_=>false)&&P.cellsOf t==1
def exB(P:Program)(t:TypeId):Bool:=(match P.underlying t with
 |some (.struct fs)=>(match fs.toList with
  |[f0,f1,f2,f3]=>f0.offset==0&&K3 P f0.type&&(f1.offset==1&&K3 P f1.type)&&(f2.offset==2&&K3 P f2.type)&&(f3.offset==3&&P.cellsOf f3.type==1&&(match P.underlying f3.type with
   |some (.slice e)=>e==t
   |_=>false))
  |_=>false)
 |_=>false)&&P.cellsOf t==4
def yS(P:Program)(fit:TypeId->Ty->Bool)(tot:Nat):List Field->Nat->Ty->Bool
 |[],_,_=>false
 |[f],off,t=>f.offset==off&&off+P.cellsOf f.type==tot&&P.cellsOf f.type==t.rep.n&&fit f.type t
 |f::g::fs,off,t=>match t with
  | .p a b=>f.offset==off&&P.cellsOf f.type==a.rep.n&&fit f.type a&&yS P fit tot (g::fs) (off+P.cellsOf f.type) b
  |_=>false
def fits(P:Program):Nat->TypeId->Ty->Bool
 |0,_,_=>false
 |n+1,i,t=>match P.underlying i with
  |some (.int k)=>(match t with
   | .i k'=>decide (k=k')
   |_=>false)
  |some .bool=>(match t with
   | .bo=>true
   |_=>false)
  |some .string=>(match t with
   | .s=>true
   |_=>false)
  |some (.slice e)=>(match t with
   | .l u=>P.cellsOf e==u.rep.n&&Nat.blt 0 u.rep.n&&fits P n e u
   |_=>false)
  |some (.struct fs)=>(match t with
   | .ex=>exB P i
   | .p a b=>yS P (fits P n) (P.cellsOf i) fs.toList 0 (.p a b)
   |_=>false)
  |_=>false
def Xa:Ty->Bool
 | .n=>false
 | .p a b=>Xa a&&Xa b
 |_=>true
theorem Ly{P:Program}{c:TypeId->Ty->Bool}(h:∀i t,c i t=true->Xa t=true){d:Nat}:∀(j:List Field) (off:Nat) (t:Ty),yS P c d j off t=true->Xa t=true
 |[],_,_,e=>by cases e
 |[f],off,t,e=>by
  simp only [yS,ae] at e;exact h _ _ e.2
 |f::g::j,off,t,e=>by
  unfold yS at e;split at e
  next a b=>simp only [ae] at e;simp only [Xa,ae];exact ⟨h _ _ e.1.2,Ly h (g::j) _ b e.2⟩
  .cases e
theorem aaG{P:Program}:∀(n:Nat) (i:TypeId) (t:Ty),fits P n i t=true->Xa t=true
 |0,_,_,e=>by cases e
 |n+1,i,t,e=>by
  unfold fits at e;split at e <;> (try cases e)
  .split at e
   .rfl
   .cases e
  .split at e
   .rfl
   .cases e
  .split at e
   .rfl
   .cases e
  .split at e
   .rfl
   .cases e
  .split at e
   .rfl
   .exact Ly (λi t=>aaG n i t) _ _ _ e
   .cases e
theorem sB{t:TypeId}(h:K3 P t=true):P.underlying t=some (.int .i64)/\P.cellsOf t=1:=by
 unfold K3 at h;simp only [ae,j0] at h;refine ⟨?_,h.2⟩;revert h;split
 next h=>intro _;exact h
 .intro h;cases h.1
theorem aoe{t:TypeId}(h:exB P t=true):aiy P t:=by
 unfold exB at h;simp only [ae,j0] at h;obtain ⟨a,r⟩:=h;split at a
 .rename_i f b;split at a
  .rename_i l k j c d;simp only [ae,j0] at a;obtain ⟨⟨⟨⟨a0,o⟩,x,n⟩,w,m⟩,⟨v,s⟩,u⟩:=a;have g:∀i:Nat,f[i]? =[l,k,j,c][i]? :=λi=>by rw [<-d,qh]
   have p:P.underlying c.type=some (.slice t):=by
    revert u;split
    next e q=>intro hb;rw [q,(by simpa using hb:e=t)]
    .intro hb;cases hb
   refine ⟨⟨f,l,k,j,c,b,?_,g 0,g 1,g 2,g 3,⟨a0,(sB o).1,(sB o).2⟩,⟨x,(sB n).1,(sB n).2⟩,⟨w,(sB m).1,(sB m).2⟩,⟨v,p,s⟩⟩,r⟩;rw [<-cb,d];rfl
  .cases a
 .cases a
theorem alW{a:Addr}{v:Value}(h:w.cell? a=some v):a.spot=none/\∃cs e fr,w.heap[a.block]? =some (.cells cs e fr)/\cs[a.off]? =some v:=by
 unfold World.cell? at h;split at h
 .rename_i cs e fr hb;split at h
  .cases h
  next b=>exact ⟨by simpa using b,cs,e,fr,hb,h⟩
 .cases h
theorem N8{Y α:Type}(R:Nat->Y->α->Prop):∀(ys:List Y),(∀i y,ys[i]? =some y->∃e,R i y e)->∃l:List α,l.length=ys.length/\∀i y e,ys[i]? =some y->l[i]? =some e->R i y e
 |[],_=>⟨[],rfl,λi y e h=>by simp at h⟩
 |y::ys,h=>by
  obtain ⟨e,f⟩:=h 0 y rfl;obtain ⟨l,d,c⟩:=N8 (λi=>R (i+1)) ys (λi y a=>h (i+1) y (by simpa using a));refine ⟨e::l,by simp [d],λi b e' a hx=>?_⟩;cases i with
  |zero=>
   simp only [c5,b5] at a hx;subst a;subst hx;exact f
  |succ i=>exact c i b e' (by simpa using a) (by simpa using hx)
theorem OO{H:Type}:∀(l:List (DataW H)),l.length<=Rows.uptoBulkAll l
 |[]=>p0 _
 |d::l=>by have:=OO l;have:=Qu d;simp only [qb,Rows.uptoBulkAll];omega
theorem aiK{H α:Type}{enc:TypeId×Value->H}{t e:TypeId}{A:dB α}{D:α->Prop}(ht:P.underlying t=some (.slice e))(hA:P.cellsOf e=A.n)(hn:0<A.n)
  (p:Nat) (cs:vf) (x:DataW H×List MemPlace) (N:∀n,n<=Rows.uptoBulk x.1->Q n)
  (he:∀(p:Nat) (us:vf) (y:DataW H×List MemPlace),(∀n,n<=Rows.uptoBulk y.1->Q n)->DataW.trod enc P W 0 (λ_=>true) true p e us=some y->∃z,A.rd (λ_=>False) W us z/\D z)
  (h:DataW.trod enc P W 0 (λ_=>true) true p t cs=some x):
  ∃(u:fy) (zs:List α),cs=[sl u]/\bO A (λ_=>False) W (sl u) zs/\(zs.length<=9223372036854775807/\Q zs.length)/\∀z∈zs,D z:=by
 rcases DataW.trod_slice ht h with ⟨o,_⟩|⟨a,len,cap,c,rest,m,rfl,o,hx,_,hlc,B,E,J,T,_⟩
 .exact ⟨(none,0,0),[],o,bO.nil,⟨by simp,N _ (p0 _)⟩,by simp⟩
 .obtain ⟨hrl,w⟩:=T rfl;rw [hA] at J w;have B:cap<=9223372036854775807:=B;have hb:Rows.uptoBulk x.1=Rows.uptoBulkAll (c.map (·.1))+Rows.uptoBulkAll (rest.map (·.1))+1:=by rw [hx];simp only [Rows.uptoBulk]
  have hlb:len<=Rows.uptoBulk x.1:=by have:=OO (c.map (·.1));simp only [List.length_map] at this;omega
  have V:∀y∈c,∀n,n<=Rows.uptoBulk y.1->Q n:=λy k n hn=>N n (by have:=CG (d:=y.1) (l:=c.map (·.1)) (List.mem_map.2 ⟨y,k,rfl⟩);omega)
  have cell:∀i,i<cap->∃us y,us.length=A.n/\(∀j,j<A.n->W.cell? ((a.add (i*A.n)).add j)=us[j]?)/\DataW.trod enc P W 0 (λ_=>true) true m e us=some y/\(i<len->c[i]? =some y):=λi hi=>by
   by_cases G:i<len
   .obtain ⟨y,k⟩:∃y,c[i]? =some y:=⟨c[i]'(by omega),b7 _⟩;have:=J i G;rw [k,qE] at this;obtain ⟨us,O,Z⟩:=this;obtain ⟨_,o,r⟩:=World.cells?_some O;exact ⟨us,y,o,r,Z,λ_=>k⟩
   .obtain ⟨y,k⟩:∃y,rest[i-len]? =some y:=⟨rest[i-len]'(by omega),b7 _⟩;have:=w (i-len) (by omega);rw [k,qE,show len+(i-len)=i by omega] at this;obtain ⟨us,O,Z⟩:=this;obtain ⟨_,o,r⟩:=World.cells?_some O;exact ⟨us,y,o,r,Z,λh=>absurd h G⟩
  by_cases K:cap=0
  .subst K;obtain rfl:len=0:=by omega
   exact ⟨(some a,0,0),[],o,bO.emp,⟨by simp,N _ (p0 _)⟩,by simp⟩
  .obtain ⟨us0,_,hl0,U,_⟩:=cell 0 (by omega);have M:=U 0 hn;rw [b7 (by omega)] at M;obtain ⟨hs,f,e',fr,L,_⟩:=alW M;have v:a.spot=none:=by simpa [Addr.add] using hs
   have g:W.heap[a.block]? =some (.cells f e' fr):=by simpa [Addr.add] using L
   obtain ⟨b,off,sp⟩:=a;simp only at v g;subst v;have at_:∀i j,((⟨b,off,none⟩:Addr).add (i*A.n)).add j=⟨b,off+i*A.n+j,none⟩:=λi j=>by unfold Addr.add;split <;> split <;> simp_all
   have q:∀i,i<cap->∃us y,us.length=A.n/\(∀j,j<A.n->f[off+i*A.n+j]? =us[j]?)/\DataW.trod enc P W 0 (λ_=>true) true m e us=some y/\(i<len->c[i]? =some y):=λi hi=>by obtain ⟨us,y,o,r,Y,X⟩:=cell i hi;refine ⟨us,y,o,λj F=>?_,Y,X⟩;have:=r j F;rw [at_] at this;simpa [World.cell?,g] using this
   have s:off+cap*A.n<=f.size:=by
    obtain ⟨us,_,o,r,_⟩:=q (cap-1) (by omega);have:=r (A.n-1) (by omega);rw [b7 (by omega)] at this;have:=(Array.getElem?_eq_some_iff.1 this).1;have e1:cap*A.n=(cap-1)*A.n+A.n:=by
     have:cap=(cap-1)+1:=by omega
     conv=>lhs;rw [this]
     rw [n7,Nat.one_mul]
    omega
   have I:∀i y,c[i]? =some y->∃z,(A.rd (λ_=>False) W (((f.toList.drop off).drop (i*A.n)).take A.n) z/\D z):=λi y k=>by
    have hi:i<len:=by rw [<-E];exact (List.getElem?_eq_some_iff.1 k).1
    obtain ⟨us,R,o,r,Y,X⟩:=q i (by omega);obtain rfl:R=y:=by have:=X hi;rw [k] at this;exact (n9 this).symm
    have S:((f.toList.drop off).drop (i*A.n)).take A.n=us:=by
     apply qm;intro j;by_cases F:j<A.n
     .rw [gj,j5 F,et,et,<-r j F];simp [qo]
     .rw [gj,gZ F,e9 (by omega)]
    rw [S];exact he m us R (V R (mj k)) Y
   obtain ⟨l,hll,hR⟩:=N8 (λi y z=>A.rd (λ_=>False) W (((f.toList.drop off).drop (i*A.n)).take A.n) z/\D z) c I;have C:l.length=len:=by omega
   have get:∀i (hi:i<l.length),A.rd (λ_=>False) W (((f.toList.drop off).drop (i*A.n)).take A.n) l[i]/\D l[i]:=λi hi=>by obtain ⟨y,k⟩:∃y,c[i]? =some y:=⟨c[i]'(by omega),b7 _⟩;exact hR i y l[i] k (b7 _)
   refine ⟨(some ⟨b,off,none⟩,len,cap),l,o,.inr ⟨b,off,cap,f,e',fr,by rw [C];rfl,(λh=>h),g,by omega,s,?_⟩,⟨by omega,N _ (by omega)⟩,λz hz=>?_⟩
   .have hle:l.length*A.n<=cap*A.n:=c8 _ (by omega);refine ⟨?_,λi hi=>?_⟩
    .simp only [bj,ch,cb];omega
    .have O:i*A.n+A.n<=l.length*A.n:=by rw [<-qT];exact c8 _ hi
     rw [pc,lk,cq (by omega)];exact (get i hi).1
   .obtain ⟨i,hi,rfl⟩:=List.getElem_of_mem hz;exact (get i hi).2
theorem adR{H:Type}{enc:TypeId×Value->H}:∀(n:Nat) (i:TypeId) (t:Ty),fits P n i t=true->∀(o:Nat) (cs:vf) (x:DataW H×List MemPlace),
  (∀n,n<=Rows.uptoBulk x.1->Q n)->DataW.trod enc P W 0 (λ_=>true) true o i cs=some x->∃z:t.T,t.rep.rd (λ_=>False) W cs z/\LI Q t z:=by
 intro n
 induction n with
 |zero=>intro i t h;cases h
 |succ n ih=>
 intro i t c o cs x R h;unfold fits at c;split at c
 .rename_i k s;split at c
  .obtain ⟨z,q,_,v⟩:=DataW.trod_int s h;have e:=p5 c;subst e;exact ⟨z,q,v⟩
  .cases c
 .rename_i s;split at c
  .obtain ⟨z,q,_⟩:=DataW.trod_bool s h;exact ⟨z,q,trivial⟩
  .cases c
 .rename_i s;split at c
  .obtain ⟨⟨⟨z⟩⟩,q,_,v⟩:=DataW.trod_string s h;exact ⟨z,q,v⟩
  .cases c
 .rename_i e s;split at c
  next u=>simp only [ae,j0,dk] at c;obtain ⟨⟨q,F⟩,v⟩:=c;obtain ⟨p,zs,a1,a2,a3,Z⟩:=aiK (A:=u.rep) (Q:=Q) (D:=LI Q u) s q F o cs x R (λo us y J h=>ih e u v o us y J h) h;exact ⟨zs,⟨p,a1,a2⟩,a3,Z⟩
  .cases c
 .rename_i B s;have key:∀t:Ty,yS P (fits P n) (P.cellsOf i) B.toList 0 t=true->∃z:t.T,t.rep.rd (λ_=>False) W cs z/\LI Q t z:=λt c=>by
   obtain ⟨xs,m,_,hx,hl,K,N⟩:=DataW.trod_struct s h;have hb:Rows.uptoBulk x.1=Rows.uptoBulkAll (xs.map (·.1))+1:=by rw [hx];simp only [Rows.uptoBulk]
   have O:∀y∈xs,∀n,n<=Rows.uptoBulk y.1->Q n:=λy J n hn=>R n (by have:=CG (d:=y.1) (l:=xs.map (·.1)) (List.mem_map.2 ⟨y,J,rfl⟩);omega)
   have one:∀(j:Nat) (f:Field) (t:Ty),B.toList[j]? =some f->fits P n f.type t=true->∃z:t.T,t.rep.rd (λ_=>False) W ((cs.drop f.offset).take (P.cellsOf f.type)) z/\LI Q t z:=λj f t G Y=>by
    have E:B[j]? =some f:=by simpa using G
    have q:=N j f E;have M:j<xs.length:=by rw [K];exact (Array.getElem?_eq_some_iff.1 E).1
    rw [b7 M] at q;exact ih f.type t Y m _ _ (O _ (List.getElem_mem _)) q
   have go:∀(r:List Field) (j off:Nat) (t:Ty),B.toList.drop j=r->yS P (fits P n) (P.cellsOf i) r off t=true->∃z:t.T,t.rep.rd (λ_=>False) W (cs.drop off) z/\LI Q t z:=λr=>by
    induction r with
    |nil=>intro j off t _ h;cases h
    |cons f r I=>
     intro j off t U c;have G:B.toList[j]? =some f:=by have:=congrArg (·[0]?) U;simpa [et] using this
     have L:B.toList.drop (j+1)=r:=by rw [<-j6,U];rfl
     cases r with
     |nil=>
      simp only [yS,ae,j0] at c;obtain ⟨⟨⟨q,F⟩,v⟩,S⟩:=c;obtain ⟨z,w,C⟩:=one j f t G S;rw [q,ed (by simp;omega)] at w;exact ⟨z,w,C⟩
     |cons g r=>
      unfold yS at c;split at c
      next a b=>simp only [ae,j0] at c;obtain ⟨⟨⟨q,F⟩,v⟩,S⟩:=c;obtain ⟨z,w,C⟩:=one j f a G v;obtain ⟨y,X,V⟩:=I (j+1) _ b L S;rw [q] at w;refine ⟨(z,y),⟨_,_,?_,w,X⟩,C,V⟩;rw [<-j6];exact (qH ..).symm
      .cases c
   obtain ⟨z,w,C⟩:=go B.toList 0 0 t rfl c;exact ⟨z,by simpa using w,C⟩
  split at c
  .obtain ⟨e,q,F⟩:=ahk (aoe c) o cs x h;exact ⟨e,q,R _ F⟩
  .exact key _ c
  .cases c
 .cases c
def jV(W:World)(I:eB):Prop:= ∀it∈I,it.1=false/\it.2.cE=true/\∀M,Mv (λ_=>False) W M W->it.2.P M W
theorem jV.nil:jV W []:=λit h=>by cases h
theorem jV.app{I J:eB}(h:jV W I)(k:jV W J):jV W (I++J):=λit a=>by
 rcases List.mem_append.1 a with b|b
 .exact h it b
 .exact k it b
theorem jV.one{α:Type}{A:dB α}{p:fy}{l:List α}(h:bO A (λ_=>False) W (sl p) l):jV W [(false,DE true A p l false)]:=λit a=>by
 rcases List.mem_singleton.1 a with rfl
 exact ⟨rfl,rfl,λM b _=>⟨h.mv b,λh=>by cases h⟩⟩
theorem He{W:World}:∀(t:Ty) (cs:vf) (x:t.T),Xa t=true->t.rep.rd (λ_=>False) W cs x->∀(o:sv) (N:List Nm),∃I N',PC t x cs (pY t++o) N I N' o/\jV W I
 | .i k,cs,x,hn,h,o,N=>⟨[],N,⟨h,rfl,rfl,rfl⟩,.nil⟩
 | .bo,cs,x,hn,h,o,N=>⟨[],N,⟨h,rfl,rfl,rfl⟩,.nil⟩
 | .s,cs,x,hn,h,o,N=>⟨[],N,⟨h,rfl,rfl,rfl⟩,.nil⟩
 | .un,cs,x,hn,h,o,N=>⟨[],N,⟨h,rfl,rfl,rfl⟩,.nil⟩
 | .n,cs,x,hn,h,o,N=>by cases hn
 | .mp _ _,cs,x,hn,h,o,N=>absurd h id
 | .p a b,cs,x,hn,h,o,N=>by
  simp only [Xa,ae] at hn;obtain ⟨c1,e,d,c,q⟩:=h;obtain ⟨g,N1,m,u⟩:=He a c1 x.1 hn.1 c (pY b++o) N;obtain ⟨f,N2,j,r⟩:=He b e x.2 hn.2 q o N1;refine ⟨g++f,N2,⟨c1,e,N1,g,f,pY b++o,?_,j,d,rfl⟩,u.app r⟩;rw [show pY (.p a b)++o=pY a++(pY b++o) by simp [pY]];exact m
 | .l t,cs,x,hn,h,o,N=>by
  obtain ⟨p,d,c⟩:=h;exact ⟨_,_,⟨⟨0,p,⟨0,0,none⟩,none,.bool false,⟨.un,()⟩⟩,d,rfl,.inl ⟨rfl,rfl⟩⟩,.one c⟩
 | .ex,cs,x,hn,h,o,N=>by obtain ⟨p,d,c⟩:=HV h;exact ⟨_,_,⟨⟨0,p,⟨0,0,none⟩,none,.bool false,⟨.un,()⟩⟩,d,rfl,.inl ⟨rfl,rfl⟩⟩,.one c⟩
def Arg(W:World)(t:Ty)(v:Value)(z:t.T):Prop:= ∀N:List Nm,∃I N',Sem (apk t) v none none N [⟨t,z⟩] I [] N'/\jV W I
theorem adO{H:Type}{enc:TypeId×Value->H}{o:Nat}{n:Nat}{i:TypeId}(t:Ty)(f:fits P n i t=true){v:Value}{d:DataW H}{ps:List MemPlace}
  (l:Value.okWide P W .any o i v) (x:∀n,n<=Rows.uptoBulk d->Q n) (h:DataW.Trod enc P W 0 (λ_=>true) true i v d ps):∃z:t.T,Arg W t v z/\LI Q t z:=by
 have q:=h;obtain ⟨m,hx⟩:=h;obtain ⟨z,c,A⟩:=adR n i t f m _ _ x hx;refine ⟨z,?_,A⟩;cases n with
 |zero=>cases f
 |succ n=>
 unfold fits at f;split at f
 .rename_i k j;split at f
  .have e:=p5 f;subst e;obtain ⟨y,rfl,_⟩:=open_int j l q;have:y=z:=by
    have c:([.int k y]:vf)=[.int k z]:=c;injection c with c _
    injection c
   subst this;exact λN=>⟨[],N,⟨y,rfl,rfl,rfl,rfl,rfl⟩,.nil⟩
  .cases f
 .rename_i j;split at f
  .obtain ⟨y,rfl,_⟩:=open_bool j l q;have:y=z:=by
    have c:([.bool y]:vf)=[.bool z]:=c;injection c with c _
    injection c
   subst this;exact λN=>⟨[],N,⟨y,rfl,rfl,rfl,rfl,rfl⟩,.nil⟩
  .cases f
 .rename_i j;split at f
  .obtain ⟨⟨⟨y⟩⟩,rfl,_⟩:=open_string j l q;have:y=z:=by
    have c:([S y]:vf)=[S z]:=c;injection c with c _
    injection c with c
    injection c with c
    injection c
   subst this;exact λN=>⟨[],N,⟨y,rfl,rfl,rfl,rfl,rfl⟩,.nil⟩
  .cases f
 .rename_i e j;split at f
  .rename_i u;obtain ⟨a,len,cap,rfl⟩:=okWide_slice j l;obtain ⟨p,w,r⟩:=c;have B:Value.slice a len cap=sl p:=by simpa [Value.cells] using w
   rw [B];exact λN=>⟨_,_,⟨⟨0,p,⟨0,0,none⟩,none,.bool false,⟨.un,()⟩⟩,z,rfl,rfl,rfl,rfl,rfl⟩,.one r⟩
  .cases f
 .rename_i D j;obtain ⟨cs,rfl,_,_⟩:=aoR j l;split at f
  .obtain ⟨p,w,r⟩:=HV c;exact λN=>⟨_,_,⟨cs.toList,z,[],by simp,rfl,⟨⟨0,p,⟨0,0,none⟩,none,.bool false,⟨.un,()⟩⟩,w,rfl,.inl ⟨rfl,rfl⟩⟩,rfl⟩,.one r⟩
  .rename_i a b;exact λN=>by
    obtain ⟨I,C,s,g⟩:=He (.p a b) _ z (Ly (λi t=>aaG n i t) _ _ _ f) c [] N;exact ⟨I,C,⟨cs.toList,z,[],by simp,rfl,by simpa [Value.cells] using s,rfl⟩,g⟩
  .cases f
 .cases f
def akJ(W:World)(ps:List Pt)(vs:vf)(D:List bX):Prop:= ∀N:List Nm,∃I N',tl ps vs [] [] N D I [] N'/\jV W I
theorem ak6:akJ W [] [] []:=λN=>⟨[],N,⟨rfl,rfl,rfl,rfl,rfl⟩,.nil⟩
theorem ajd{W:World}{t:Ty}{v:Value}{z:t.T}{ps:List Pt}{vs:vf}{D:List bX}(h:Arg W t v z)(k:akJ W ps vs D):akJ W (apk t::ps) (v::vs) (⟨t,z⟩::D):=λN=>by obtain ⟨b,N1,d,f⟩:=h N;obtain ⟨a,N2,c,e⟩:=k N1;exact ⟨b++a,N2,⟨v,vs,[⟨t,z⟩],D,b,a,[],[],N1,rfl,d,c,rfl,rfl,rfl⟩,f.app e⟩
theorem akC{I:eB}{Γ:Ctx}(g:jV W I)(b:GB Γ)(h:Sat Γ W):Sat (df I++Γ) W:=A3 h _ (λit a=>by obtain ⟨x,hx,rfl⟩:=List.mem_map.1 a;exact ⟨(g x hx).2.1,(g x hx).2.2 _ (akA b)⟩)
namespace To
theorem amf{x:Int}(h:(Lit.int .u32 x).wf=true):0<=x/\x<=4294967295:=by simp only [Lit.wf,ae,kz] at h;exact h
theorem aoX{x:Int}(h:(Lit.int .u8 x).wf=true):0<=x/\x<=255:=by simp only [Lit.wf,ae,kz] at h;exact h
theorem aiu(w:Int×Int×Int×Int×Bool)(h:LI (λ_=>True) (.p (.i .u32) (.p (.i .u32) (.p (.i .u8) (.p (.i .u8) .bo)))) w):eo w=some true:=
 abZ w (amf h.1) (amf h.2.1) (aoX h.2.2.1) (aoX h.2.2.2.1)
end To
end
end Go.Proofs.YtkedhpmpejhekaaGreatDoor
