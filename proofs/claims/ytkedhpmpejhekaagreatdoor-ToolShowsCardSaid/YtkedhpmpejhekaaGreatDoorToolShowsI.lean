/- Own texts for ToolShows, cut and joined by a program. -/
import Derived.Test.YtkedhpmpejhekaaGreatDoorToolShowsH
import Derived.Lib.LaidTab
import Derived.Below
import Derived.ProofKit
import Derived.Test.YtkedhpmpejhekaaGreatDoorRows
import Derived.Carry
import Derived.ChangeSlices
import Derived.OpenShut
set_option linter.all false
namespace Go.Proofs.YtkedhpmpejhekaaGreatDoor
open IntKind (u64 u8)
noncomputable section
open Go.Proofs
noncomputable section
set_option maxRecDepth 100000
open Tryz
def GG:aq:=⟨14,[.str],sG,[],λs=>jP s⟩
theorem A4:Ko GG:=
 ax (.l ⟨[(false,3,sG),(false,4,.str),(false,5,an)],[]⟩ .o) call14 func14 al
def yY:aq:=⟨5,[ahI],.bool,[],λs=>gK s⟩
theorem wD:Ko yY:=
 ax (.c .o (.r [] (.l ⟨[(false,6,.str),(false,7,an)],[]⟩ (.c .o (.l ⟨[(false,6,.str),(false,8,an)],[]⟩ (.c .o (.j ⟨[(false,5,gR),(false,6,.str)],[1]⟩ .o (.c .o (.r [30000,20005] (.l ⟨[(false,9,an)],[]⟩ (.c (.r [] (.c .o (.l ⟨[(false,11,an)],[]⟩ .o))) .o))))))))))) call5 func5 (aj Cl (aj E4 (aj vT (aj A4 (aj BQ (aj ET al))))))
end
namespace To
open Go.Lib
def nb(w:aE):Prop:= ∀b∈w,b≠32
theorem aiY:∀(w l cur:aE),nb w->wl (w++l) cur=wl l (cur++w)
 |[],l,cur,_=>by simp
 |b::w,l,cur,h=>by have hb:(b==32)=false:=beq_eq_false_iff_ne.2 (h b (bj ..));rw [de,wl,hb,j0 (by simp),aiY w l (cur++[b]) λc hc=>h c (.tail _ hc)];simp
theorem UE{w:aE}(h:nb w)(a:w≠[]):wl w []=[w]:=by have:=aiY w [] [] h;rw [iq,mo] at this;rw [this,wl,j0 (by simpa using a)]
theorem GW(w:aE):∀(l cur:aE),wl (l++32::w) cur=wl l cur++wl w []
 |[],cur=>by
  simp only [mo,wl,beq_self_eq_true,qn];split <;> simp
 |b::l,cur=>by
  simp only [de,wl];split
  .split <;> simp [GW w l]
  .exact GW w l _
def ln:aE->aE->List aE
 |[],_=>[]
 |b::l,cur=>if b==10 then cur::ln l [] else ln l (cur++[b])
def nl(w:aE):Prop:= ∀b∈w,b≠10
theorem ai6:∀(w l cur:aE),nl w->ln (w++10::l) cur=(cur++w)::ln l []
 |[],l,cur,_=>by simp [ln]
 |b::w,l,cur,h=>by have hb:(b==10)=false:=beq_eq_false_iff_ne.2 (h b (bj ..));rw [de,ln,hb,j0 (by simp),ai6 w l (cur++[b]) λc hc=>h c (.tail _ hc)];simp
theorem ae9:∀(L:List aE),(∀w∈L,nl w)->ln (L.flatMap λw=>w++[10]) []=L
 |[],_=>rfl
 |w::L,h=>by rw [List.flatMap_cons,aO,p5,ai6 w _ [] (h w (bj ..)),ae9 L λx hx=>h x (.tail _ hx)];rfl
def dgt(b:UInt8):Prop:=48<=b.toNat/\b.toNat<=57
theorem ads{k:Nat}(h:k<10):dgt (UInt8.ofNat (48+k)):=by
 have:(UInt8.ofNat (48+k)).toNat=48+k:=by simp [UInt8.toNat_ofNat'];omega
 exact ⟨by omega,by omega⟩
theorem VN(u:Nat):∀b∈decDigits u,dgt b:=by
 induction u using Nat.strongRecOn with
 |_ u ih=>
  intro b hb;rw [decDigits] at hb;split at hb
  next h=>rw [List.mem_singleton.1 hb];exact ads h
  .rcases List.mem_append.1 hb with hb|hb
   .exact ih (u/10) (by omega) b hb
   .rw [List.mem_singleton.1 hb];exact ads (sv _ (by omega))
theorem SN(u:Nat):decDigits u≠[]:=by rw [decDigits];split <;> simp
theorem aaV(n:Int):∀b∈itoa n,b=45\/dgt b:=by
 intro b hb;unfold itoa at hb;split at hb
 .rcases List.mem_cons.1 hb with h|h
  .exact .inl h
  .exact .inr (VN _ b h)
 .exact .inr (VN _ b hb)
theorem an6(n:Int):nb (itoa n):=λb hb e=>by
 subst e;rcases aaV n _ hb with h|h
 .cases h
 .have:=h.1;simp at this
theorem aoQ(n:Int):nl (itoa n):=λb hb e=>by
 subst e;rcases aaV n _ hb with h|h
 .cases h
 .have:=h.1;simp at this
theorem aoG(n:Int):itoa n≠[]:=by
 unfold itoa;split
 .simp
 .exact SN _
def fI(s:aE)(l:x6):aE:=s++l.flatMap λn=>32::itoa n
theorem afR:∀(l:x6) (s:aE),nb s->s≠[]->wl (fI s l) []=s::l.map itoa
 |[],s,hs,hn=>by simpa [fI] using UE hs hn
 |n::l,s,hs,hn=>by rw [show fI s (n::l)=s++32::fI (itoa n) l by simp [fI],GW,UE hs hn,afR l _ (an6 n) (aoG n)];rfl
theorem afg(s:aE)(a:nl s)(l:x6):nl (fI s l):=λb hb=>by
 rcases List.mem_append.1 hb with h|h
 .exact a b h
 .obtain ⟨n,_,h⟩:=List.mem_flatMap.1 h;rcases List.mem_cons.1 h with rfl|h
  .decide
  .exact aoQ n b h
def pZ:Nat->aE->xb
 |n,[]=>some n
 |n,b::l=>if 48<=b.toNat/\b.toNat<=57 then pZ (10*n+(b.toNat-48)) l else none
def ako(s:aE):xb:=if s.length<1\/9<s.length then none else pZ 0 s
theorem abV:∀(s t:aE) (n:Nat),pZ n (s++t)=(pZ n s).bind λm=>pZ m t
 |[],t,n=>rfl
 |b::s,t,n=>by
  rw [de,pZ,pZ];split
  .exact abV s t _
  .rfl
theorem akE(u:Nat):pZ 0 (decDigits u)=some u:=by
 induction u using Nat.strongRecOn with
 |_ u ih=>
  have one:∀n k,k<10->pZ n [UInt8.ofNat (48+k)]=some (10*n+k):=λn k a=>by
   have hd:=ads a;have:(UInt8.ofNat (48+k)).toNat=48+k:=by simp [UInt8.toNat_ofNat'];omega
   rw [pZ,lk (show 48<=_/\_ from hd),pZ,this];congr 1;omega
  rw [decDigits];split
  next h=>rw [one 0 u h];simp
  .rw [abV,ih (u/10) (by omega),b7,one _ _ (sv _ (by omega))];congr 1;omega
theorem ajF:∀(k:Nat) (s:aE),pZ 0 (List.replicate k 48++s)=pZ 0 s
 |0,s=>rfl
 |k+1,s=>by rw [qi,de,pZ,lk (by decide)];exact ajF k s
end To
variable {i : Nat} {α ρ : Type}
namespace To
open Go.Lib
theorem ma{σ:Type}(F:(σ->Option ρ)->σ->Option ρ)(n:Nat)(s:σ):aw F (n+1) s=F (aw F n) s:=rfl
theorem iK{n:Nat}(h:n<18446744073709551616):n<=az:=Nat.le_of_lt h
theorem cU(k:Option ρ):aH true k=k:=rfl
theorem aoF(c:Bool)(k:Option ρ):B2 false c k=k:=rfl
theorem V7(k:Option ρ)(g:Bool):B2 g true k=k:=by cases g <;> rfl
theorem al2(d:α)(m:Option α)(k:α->Option ρ):bz true d m k=m.bind k:=rfl
theorem lE(x:α)(k:α->Option ρ):ai x k=k x:=rfl
theorem ag4{i:Int}{n:Nat}(b:0<=i)(a:i<n):vt i n=true:=vP.2 ⟨b,a⟩
theorem Vr{i j:Int}{n:Nat}(c:0<=i)(b:i<=j)(a:j<=n):db i j n=true:=Bn.2 ⟨⟨c,b⟩,a⟩
theorem jc{m l:aE}(h:m.length+l.length<=9223372036854775807):lZ m l=true:=qf h
theorem AH{k b:Nat}(h:k*b<=140737488355328)(a:k<=9223372036854775807):aG k b=true:=by simp only [aG,ae];exact ⟨qf h,qf a⟩
theorem w1{i:Nat}(h:i<4611686018427387904):IntKind.i64.wrap ((i:Int)+1)=((i+1:Nat):Int):=by rw [xH (by omega)];rfl
theorem uU{α:Type}{l:List α}{i:Nat}(h:i<l.length):idx l (i:Int)=some l[i]:=by unfold idx;rw [lk (by omega),qq,cb h]
theorem aca{l:aE}{i:Nat}(h:i<l.length):ir l (i:Int)=(l[i].toNat:Int):=by simp [ir,List.getD,h]
theorem agn{l:aE}{i:Nat}(h:i<l.length):cut l (i:Int) ((i+1:Nat):Int)=[l[i]]:=by show (l.drop i).take (i+1-i)=_;rw [gx h,show i+1-i=1 by omega];rfl
theorem afG(b:UInt8)(k:Nat)(a:k<256):((b.toNat:Int)==(k:Int))=(b==UInt8.ofNat k):=by rw [qN,kX,kX,<-UInt8.toNat_inj];simp [UInt8.toNat_ofNat',Nat.mod_eq_of_lt a];omega
theorem SB(a:aE)(e:a.length<4294967296):∀(N i:Nat) (out:List aE) (w:aE),i<=a.length->a.length+2<=N+i->out.length<=i->w.length<=i->
  aw (dx a) N (out,w,(i:Int))=some (out++wl (a.drop i) w)
 |0,i,out,w,h1,h2,_,_=>by omega
 |N+1,i,out,w,h1,h2,h3,h4=>by
  have c:aG (out.length+([w]:List aE).length) 16=true:=AH (by simp;omega) (by simp;omega);rw [ma];show (bif (decide ((i:Int)<=(a.length:Int))) then _ else _)=_;rw [cr (by omega),c9];simp only [lE];by_cases hi:i<a.length
  .have hb:((a[i].toNat:Int)==32)=(a[i]==32):=afG a[i] 32 (by decide);rw [cr (show (i:Int)<a.length by omega),ag4 (by omega) (by omega),V7,aca hi,qu];have hd:a.drop i=a[i]::a.drop (i+1):=gx hi;rw [hd,wl,show ((a[i].toNat:Int) != 32)= !(a[i]==32) by rw [<-hb];rfl,w1 (by omega)];cases hc:(a[i]==32) with
   |true=>
    simp only [Bool.not_true,cy,qn];cases w with
    |nil=>
     show aw (dx a) N (out,[],((i+1:Nat):Int))=_;rw [SB a e N (i+1) out [] (by omega) (by omega) (by omega) (by simp)];rfl
    |cons x w=>
     show aH _ (aw (dx a) N (out++[x::w],[],((i+1:Nat):Int)))=_;rw [c,cU,SB a e N (i+1) (out++[x::w]) [] (by omega) (by omega) (by simp;omega) (by simp)];simp
   |false=>
    simp only [Bool.not_false,c9];rw [Vr (by omega) (by omega) (by omega),cU,agn hi,jc (by simp;omega),cU,SB a e N (i+1) out (w++[a[i]]) (by omega) (by omega) (by omega) (by simp;omega)];rfl
  .have f:i=a.length:=by omega
   rw [ct (show ¬(i:Int)<a.length by omega),aoF,tt,cy,w1 (by omega),eF (by omega),wl];obtain ⟨d,rfl⟩:∃d,N=d+1:=⟨N-1,by omega⟩;have last:∀b,aw (dx a) (d+1) (b,[],((i+1:Nat):Int))=some b:=λb=>by rw [ma];show (bif (decide (((i+1:Nat):Int)<=(a.length:Int))) then _ else _)=_;rw [ct (by omega),cy]
   cases w with
   |nil=>
    show aw (dx a) (d+1) (out,[],((i+1:Nat):Int))=_;rw [last];simp
   |cons x w=>
    show aH _ (aw (dx a) (d+1) (out++[x::w],[],((i+1:Nat):Int)))=_;rw [c,cU,last];rfl
theorem amp(a:aE)(b:a.length<4294967296):jQ a=some (wl a []):=by have:=SB a b az 0 [] [] (by omega) (iK (by omega)) (by simp) (by simp);unfold jQ;simpa using this
theorem alq(a:aE)(b:a.length<4294967296):Ar a=some (wl a []):=by unfold Ar aij;rw [cr (by omega),cU];rfl
def kF(s:aE):Int×Bool:=match ako s with
 |some n=>(n,true)
 |none=>(0,false)
theorem aop(b:UInt8):(b.toNat:Int)<256:=by have:=UInt8.toNat_lt b;omega
theorem p10:∀t:Nat,t<10->10^t<=1000000000:=by decide
theorem ari(t:Nat):10^(t+1)=10*10^t:=by rw [Nat.pow_succ];omega
theorem ajn(s:aE)(b:s.length<=9):∀(N t n:Nat),t<=s.length->s.length+1<=N+t->n<10^t->
  aw (GB s) N ((n:Int),(t:Int))=some (match pZ n (s.drop t) with
   |some m=>((m:Int),true)
   |none=>(0,false))
 |0,t,n,h1,h2,_=>by omega
 |N+1,t,n,h1,h2,h3=>by
  have hp:=p10 t (by omega);rw [ma];show (bif (decide ((t:Int)<(s.length:Int))) then _ else _)=_;by_cases a:t<s.length
  .have hb:=aop s[t];have hd:s.drop t=s[t]::s.drop (t+1):=gx a;rw [cr (by omega),c9,ag4 (by omega) (by omega),cU];simp only [lE];rw [V7,aca a,hd,pZ];by_cases hc:48<=s[t].toNat/\s[t].toNat<=57
   .rw [lk hc,ct (by omega),ct (by omega),qv,cy,cU];have d:IntKind.i64.wrap ((IntKind.i64.wrap (10*(n:Int)))+(IntKind.i64.wrap (u8.wrap ((s[t].toNat:Int)-48))))=((10*n+(s[t].toNat-48):Nat):Int):=by
     have c:u8.wrap ((s[t].toNat:Int)-48)=(s[t].toNat:Int)-48:=by show ((s[t].toNat:Int)-48)%256=_;omega
     rw [c,xH (x:=(s[t].toNat:Int)-48) (by omega),xH (x:=10*(n:Int)) (by omega),xH (by omega)];omega
    rw [d,w1 (by omega),ajn s b N (t+1) _ (by omega) (by omega) (by rw [ari];omega)]
   .rw [j0 hc];have:(decide ((s[t].toNat:Int)<48)||decide (57<(s[t].toNat:Int)))=true:=by rw [c5,n5,n5];omega
    rw [this,c9]
  .rw [ct (by omega),cy,eF (by omega)];rfl
theorem ajY(s:aE)(a:s.length<4294967296):wU s=some (kF s):=by
 unfold wU kF ako;simp only [lE];by_cases h:s.length<1\/9<s.length
 .rw [lk h];have:(decide ((s.length:Int)<1)||decide (9<(s.length:Int)))=true:=by rw [c5,n5,n5];omega
  rw [this];rfl
 .rw [j0 h,ct (by omega),ct (by omega)];exact ajn s (by omega) az 0 0 (by omega) (iK (by omega)) (by decide)
def j4(w:aE):Int:=if w=[112,108,97,105,110] then 0 else if w=[112,97,114,116,115] then 1 else if w=[116,114,101,101] then 2 else if w=[119,111,114,100,115] then 3 else if w=[108,111,115,115,121] then 4 else -1
theorem LS(l:List aE)(w x:aE)(N t:Nat)(h:l[t]? =some x)(b:t<4611686018427387904):aw (gF l w) (N+1) (t:Int)=if w=x then some (t:Int) else aw (gF l w) N ((t+1:Nat):Int):=by
 obtain ⟨d,c⟩:=List.getElem?_eq_some_iff.1 h;rw [ma];show (bif (decide ((t:Int)<(l.length:Int))) then _ else _)=_;rw [cr (by omega),c9,uU d,c,b7,w1 b];by_cases a:w=x
 .rw [lk a,a,beq_self_eq_true,c9]
 .rw [j0 a,beq_eq_false_iff_ne.2 a,cy]
theorem alM(w:aE):cS lN w=some (j4 w):=by
 unfold cS j4;obtain ⟨N,a⟩:∃N,az=N+1+1+1+1+1+1:=⟨18446744073709551610,rfl⟩;rw [a,show (0:Int)=((0:Nat):Int) from rfl,LS lN w [112,108,97,105,110] _ 0 rfl (by omega),LS lN w [112,97,114,116,115] _ 1 rfl (by omega),LS lN w [116,114,101,101] _ 2 rfl (by omega),
  LS lN w [119,111,114,100,115] _ 3 rfl (by omega),LS lN w [108,111,115,115,121] _ 4 rfl (by omega)]
 repeat' split
 all_goals rfl
def jq:List aE->Option x6
 |[]=>some []
 |s::l=>if (kF s).2 then (jq l).map ((kF s).1:: ·) else none
abbrev amP:=(Int×Int×Int×Int×Int×Int)×Bool
def FU:amP:=((0,0,0,0,0,0),false)
def Mc(w:aE):Option x6->amP
 |some [a,b]=>if 0<=j4 w/\j4 w≠4 then ((j4 w,a,b,0,0,0),true) else FU
 |some [a,b,c,d,e]=>if j4 w=4 then ((4,a,b,u64.wrap e,c,d),true) else FU
 |_=>FU
def VJ:List aE->amP
 |[]=>FU
 |w::l=>Mc w (jq l)
theorem LI:∀(l:List aE) (x:x6),jq l=some x->x.length=l.length
 |[],x,h=>by cases h;rfl
 |s::l,x,h=>by
  unfold jq at h;split at h
  .cases hx:jq l with
   |none=>rw [hx] at h;cases h
   |some y=>rw [hx] at h;cases h;simp [LI l y hx]
  .cases h
theorem amV(w:aE)(n:Int)(x:Option x6)(hx:∀y,x=some y->(y.length:Int)=n)(h:j4 w<0\/n+1≠(if j4 w=4 then 6 else 3)):Mc w x=FU:=by
 unfold Mc;split
 next a b=>have:=hx _ rfl;simp only [eb,gj] at this;rw [j0];rintro ⟨f,g⟩;rw [j0 g] at h;omega
 .rename_i a b c d e;have:=hx _ rfl;simp only [eb,gj] at this;split
  next f=>rw [lk f] at h;omega
  .rfl
 .rfl
theorem acd(w:aE)(l:List aE)(h:j4 w<0\/(l.length+1:Int)≠(if j4 w=4 then 6 else 3)):VJ (w::l)=FU:=
 amV w l.length (jq l) (λy a=>by rw [LI l y a]) h
theorem ajf(x:α)(l:List α):bD (x::l) 1 (((x::l).length:Nat):Int)=l:=by unfold bD;simp
def put(c:Int×Int×Int×Int×Int)(i:Nat)(x:Int):Int×Int×Int×Int×Int:=match i with
 |0=>(x,c.2.1,c.2.2.1,c.2.2.2.1,c.2.2.2.2)
 |1=>(c.1,x,c.2.2.1,c.2.2.2.1,c.2.2.2.2)
 |2=>(c.1,c.2.1,x,c.2.2.2.1,c.2.2.2.2)
 |3=>(c.1,c.2.1,c.2.2.1,x,c.2.2.2.2)
 |_=>(c.1,c.2.1,c.2.2.1,c.2.2.2.1,x)
theorem aqm(w:aE)(l:List aE)(k:Int)(b:∀s∈l,s.length<4294967296)(N i:Nat)(s:aE)(a:l[i]? =some s)(hi:i<5)(c:Int×Int×Int×Int×Int):
  aw (gm (w::l) k) (N+1) (c.1,c.2.1,c.2.2.1,c.2.2.2.1,c.2.2.2.2,(i:Int))=
   if (kF s).2 then aw (gm (w::l) k) N ((put c i (kF s).1).1,(put c i (kF s).1).2.1,(put c i (kF s).1).2.2.1,(put c i (kF s).1).2.2.2.1,(put c i (kF s).1).2.2.2.2,((i+1:Nat):Int)) else some FU:=by
 obtain ⟨e,d⟩:=List.getElem?_eq_some_iff.1 a;rw [ma];unfold gm;dsimp only;rw [ajf,cr (by omega),c9,uU e,d,b7,ajY s (b s (pa a)),b7];cases hv:(kF s).2 with
 |false=>rfl
 |true=>
  rw [Bool.not_true,cy,lk rfl,w1 (by omega)]
  match i,hi with
  |0,_=>rfl
  |1,_=>rfl
  |2,_=>rfl
  |3,_=>rfl
  |4,_=>rfl
  |i+5,hi=>omega
theorem aqI(w:aE)(l:List aE)(k:Int)(N i:Nat)(hi:i=l.length)(c:Int×Int×Int×Int×Int):
  aw (gm (w::l) k) (N+1) (c.1,c.2.1,c.2.2.1,c.2.2.2.1,c.2.2.2.2,(i:Int))=some ((k,c.1,c.2.1,u64.wrap c.2.2.2.2,c.2.2.1,c.2.2.2.1),true):=by
 rw [ma];unfold gm;dsimp only;rw [ajf,ct (by omega),cy]
def G6:x6->Nat->Int×Int×Int×Int×Int->Int×Int×Int×Int×Int
 |[],_,c=>c
 |x::l,i,c=>G6 l (i+1) (put c i x)
theorem aiz(w:aE)(l:List aE)(k:Int)(a:∀s∈l,s.length<4294967296)(b:l.length<=5):∀(N i:Nat) (c:Int×Int×Int×Int×Int),i<=l.length->l.length+1<=N+i->
  aw (gm (w::l) k) N (c.1,c.2.1,c.2.2.1,c.2.2.2.1,c.2.2.2.2,(i:Int))=some (match jq (l.drop i) with
   |some xs=>((k,(G6 xs i c).1,(G6 xs i c).2.1,u64.wrap (G6 xs i c).2.2.2.2,(G6 xs i c).2.2.1,(G6 xs i c).2.2.2.1),true)
   |none=>FU)
 |0,i,c,h1,h2=>by omega
 |N+1,i,c,h1,h2=>by
  by_cases hi:i<l.length
  .rw [aqm w l k a N i l[i] (cb hi) (by omega) c,gx hi,jq];cases hv:(kF l[i]).2 with
   |false=>rfl
   |true=>
    rw [lk rfl,lk rfl,aiz w l k a b N (i+1) (put c i (kF l[i]).1) (by omega) (by omega)];cases jq (l.drop (i+1)) <;> rfl
  .rw [aqI w l k N i (by omega) c,eF (by omega)];rfl
theorem agD(i:aE)(p:i.length<4294967296)(n:∀s∈wl i [],s.length<4294967296):ga i=some (VJ (wl i [])):=by
 unfold ga;rw [alq i p,b7];generalize wl i []=r at n;cases r with
 |nil=>rfl
 |cons w l=>
  have m:(((w::l).length:Nat):Int)=(l.length:Int)+1:=by simp
  rw [show ((((w::l).length:Nat):Int)==0)=false by rw [qJ];omega,cy,show idx (w::l) 0=some w from rfl,b7,alM,b7];simp only [lE];have key:∀g:Int,g=(if j4 w=4 then 6 else 3)->uX (w::l) (j4 w) g=some (VJ (w::l)):=by
   intro g j;unfold uX;simp only [lE];by_cases hb:j4 w<0\/(l.length+1:Int)≠g
   .rw [acd w l (by rw [<-j];exact hb)];have:(decide (j4 w<0)||(((w::l).length:Nat):Int) != g)=true:=by rw [c5,n5,bne_iff_ne,m];exact hb
    rw [this];rfl
   .have u:¬j4 w<0:=λh=>hb (.inl h);have q:(l.length+1:Int)=g:=qV λh=>hb (.inr h);rw [ct u,show ((((w::l).length:Nat):Int) != g)=false by rw [bne_eq_false_iff_eq,m];exact q,Bool.or_false,cy,Vr (by omega) (by rw [m];omega) (by omega),cU];have t:l.length<=5:=by split at j <;> omega
    have:=aiz w l (j4 w) (λs o=>n s (.tail _ o)) t az 0 (0,0,0,0,0) (by omega) (iK (by omega));refine Eq.trans this ?_;rw [l9];show _=some (Mc w (jq l));cases hx:jq l with
    |none=>rfl
    |some xs=>
     have f:=LI _ _ hx;by_cases k:j4 w=4
     .rw [lk k] at j
      match xs,f with
      |[a,b,c,d,e],_=>show _=some (if j4 w=4 then _ else _);rw [lk k,k];rfl
      |[],f|[_],f|[_,_],f|[_,_,_],f|[_,_,_,_],f|_::_::_::_::_::_::_,f=>simp at f;omega
     .rw [j0 k] at j
      match xs,f with
      |[a,b],_=>show _=some (if 0<=j4 w/\j4 w≠4 then _ else _);rw [lk ⟨by omega,k⟩];rfl
      |[],f|[_],f|_::_::_::_,f=>simp at f;omega
  by_cases k:j4 w=4
  .rw [k,beq_self_eq_true,c9,<-k];exact key 6 (by rw [lk k])
  .rw [beq_eq_false_iff_ne.2 k,cy];exact key 3 (by rw [j0 k])
end To
namespace To
open Go.Lib
theorem aqE:∀u:Nat,u<10->db (u:Int) (u64.wrap ((u:Int)+1)) 10=true/\cut [48,49,50,51,52,53,54,55,56,57] (u:Int) (u64.wrap ((u:Int)+1))=[UInt8.ofNat (48+u)]:=by decide
theorem aa8:∀(N u:Nat),u<18446744073709551616->u<N->aw (λk (s:Int)=>dw k s) N (u:Int)=some (decDigits u)
 |0,u,_,h=>by omega
 |N+1,u,hb,h=>by
  rw [ma];have ih:∀v:Nat,v<18446744073709551616->v<N->aw (λk (s:Int)=>dw k s) N (v:Int)=some (decDigits v):=aa8 N;generalize aw (λk (s:Int)=>dw k s) N=f at ih ⊢;show dw _ _=_;unfold dw;rw [decDigits];by_cases a:u<10
  .obtain ⟨d,c⟩:=aqE u a;rw [ct (by omega),cy,dif_pos a];show aH (db (u:Int) _ 10) _=_;rw [d,cU,c]
  .rw [cr (by omega),c9,dif_neg a];have w1:u64.wrap (Int.tdiv (u:Int) 10)=((u/10:Nat):Int):=by rw [Int.tdiv_eq_ediv_of_nonneg (by omega)];show ((u:Int)/10)%18446744073709551616=_;omega
   have b:Int.tmod (u:Int) 10=((u%10:Nat):Int):=by rw [Int.tmod_eq_emod_of_nonneg (by omega)];omega
   have e:=nDigits_le20 (u/10) (by omega);rw [w1,b,ih (u/10) (by omega) (by omega),ih (u%10) (by omega) (by omega),b7,b7,decDigits_one (sv _ (by omega)),
    jc (by rw [decDigits_length];simp;omega),cU]
theorem ajd(n:Int)(c: -9223372036854775808<=n)(b:n<=9223372036854775807):gA n=some (itoa n):=by
 unfold gA itoa jo;by_cases h:n<0
 .have e:u64.wrap (0-u64.wrap n)=((n.natAbs:Nat):Int):=by show (0-n%18446744073709551616)%18446744073709551616=_;omega
  have a:=nDigits_le20 n.natAbs (by omega);rw [cr h,c9,lk h,e,aa8 az n.natAbs (by omega) (by show _<18446744073709551616;omega),b7,jc (by rw [decDigits_length];simp;omega),cU];rfl
 .have e:u64.wrap n=((n.toNat:Nat):Int):=by show n%18446744073709551616=_;omega
  rw [ct h,cy,j0 h,e,aa8 az n.toNat (by omega) (by show _<18446744073709551616;omega),b7]
def i64(n:Int):Prop:= -9223372036854775808<=n/\n<=9223372036854775807
theorem wz(n:Int)(h:i64 n):(itoa n).length<=21:=by
 obtain ⟨b,a⟩:=h;unfold itoa;split
 .have:=nDigits_le20 n.natAbs (by omega);simp only [eb,decDigits_length];omega
 .have:=nDigits_le20 n.toNat (by omega);rw [decDigits_length];omega
theorem akG(n:Int)(h:i64 n):Nb n=some (itoa n):=by unfold Nb;rw [show abJ n=true from adv.2 h,cU]
end To
namespace To
open Go.Lib
abbrev VT:=Int×Int×Int×x6×(vy×vy)
theorem HM(s:aE):∀l:x6,(∀n∈l,i64 n)->(fI s l).length<=s.length+l.length*22
 |[],_=>by simp [fI]
 |n::l,h=>by have c:=wz n (h n (bj ..));have b:=HM s l λm a=>h m (.tail _ a);simp only [fI,b9,List.flatMap_cons,eb] at b ⊢;omega
theorem aa3(l:x6)(c:∀n∈l,i64 n)(d:l.length<4294967296):∀(N t:Nat) (w:aE),t<=l.length->l.length+1<=N+t->w.length<=4294967296+t*22->
  aw (O8 l) N (w,(t:Int))=some (w++((l.drop t).flatMap λn=>32::itoa n)++[10])
 |0,t,w,h1,h2,_=>by omega
 |N+1,t,w,h1,h2,h3=>by
  rw [ma];show (bif (decide ((t:Int)<(l.length:Int))) then _ else _)=_;by_cases a:t<l.length
  .have b:=c _ (qI a);have hi:=wz _ b;rw [cr (by omega),c9,uU a,b7,akG _ b,b7,jc (by simp;omega),cU,jc (by simp;omega),cU,w1 (by omega),
    aa3 l c d N (t+1) _ (by omega) (by omega) (by simp;omega),gx a,List.flatMap_cons]
   simp
  .rw [ct (by omega),cy,jc (by simp;omega),cU,eF (by omega)];simp
theorem Li(s:aE)(l:x6)(c:s.length<4294967296)(a:∀n∈l,i64 n)(b:l.length<4294967296):kT s l=some (fI s l++[10]):=by have:=aa3 l a b az 0 s (by omega) (iK (by omega)) (by omega);unfold kT fI;simpa using this
def J(L:List aE):aE:=L.flatMap λw=>w++[10]
def bP(v:VT):aE:=if v.1=1 then [104,111,108,100,115] else if v.1=2 then [118,105,111,108,97,116,101,100] else if v.1=3 then [110,111,116,104,105,110,103] else fI [101,114,114,111,114] [v.2.1,v.2.2.1]
def HD(v:VT):List aE:=if v.2.2.2.1=[] then [] else [fI [33] v.2.2.2.1]
def Dw(v:VT):List aE:=bP v::(v.2.2.2.2.1.map (fI [45])++v.2.2.2.2.2.map (fI [111])++HD v)
def few(l:vy):Prop:=l.length<=20/\∀x∈l,x.length<=40/\∀n∈x,i64 n
structure OkV(v:VT):Prop where
 e:i64 v.2.1
 a:i64 v.2.2.1
 st:v.2.2.2.1.length<=40/\∀n∈v.2.2.2.1,i64 n
 s:few v.2.2.2.2.1
 c:few v.2.2.2.2.2
theorem abD{s:aE}{x:x6}(h:x.length<=40/\∀n∈x,i64 n):(fI s x++[10]).length<=s.length+900:=by have:=HM s x h.2;simp only [b9,eb,gj];omega
theorem Gh(w:aE)(L:List aE):J (w::L)=w++[10]++J L:=rfl
section
variable {v : VT} (hv : OkV v)
include hv
end
end To
namespace To
open Go.Lib
theorem apW(x y:aE):ba (x++y)=ba x++ba y:=by simp [ba]
theorem aiy(x:aE):(ba x).length=x.length:=by simp [ba]
theorem aku(x:aE):strOf (ba x)=x:=by
 unfold strOf ba;rw [qG]
 conv=>rhs;rw [<-List.map_id x]
 exact qw λb _=>by simp
theorem copy_eq(a:Bool)(b:x6):fQ a b=some true:=by cases a <;> rfl
theorem Ci(s:aE)(a:Bool)(x:aE)(h:x.length+s.length<=1000000000):bL s a (ba x)=some ((s.length:Int),true,ba (x++s)):=by unfold bL;rw [copy_eq,b7,AH (by rw [aiy];omega) (by rw [aiy];omega),cU,apW]
theorem XV(a:Bool)(x:aE)(h:x≠[]):BG a (ba x)=some x:=by
 unfold BG hZ;cases x with
 |nil=>exact absurd rfl h
 |cons b x=>
  rw [show idx (ba (b::x)) 0=some (b.toNat:Int) from rfl,b7,cr rfl,cr rfl,show (true&&true)=true from rfl,cU,b7,aku]
section
variable {v : VT} (hv : OkV v)
include hv
theorem TS3:∀(N i:Nat) (a:Bool) (out:aE),i<=v.2.2.2.2.2.length->v.2.2.2.2.2.length+1<=N+i->out.length<=1000000+i*1000->out≠[]->
  aw (Kw v) N (a,ba out,(i:Int))=some (out++J ((v.2.2.2.2.2.drop i).map (fI [111])++HD v))
 |0,i,a,out,h1,h2,_,_=>by omega
 |N+1,i,a,out,h1,h2,h3,h4=>by
  have g:=hv.c.1;rw [ma];show (bif (decide ((i:Int)<(v.2.2.2.2.2.length:Int))) then _ else _)=_;by_cases hi:i<v.2.2.2.2.2.length
  .have hx:=hv.c.2 _ (qI hi);have e:=abD (s:=[111]) hx;rw [cr (by omega),c9,uU hi,b7,Li _ _ (by decide) hx.2 (by omega),b7,Ci _ _ _ (by simp only [eb,gj] at e ⊢; omega),b7,w1 (by omega),
    TS3 N (i+1) _ _ (by omega) (by omega) (by rw [b9];simp only [eb,gj] at e;omega) (by simp [h4]),gx hi,cx,de,Gh,aO]
  .rw [ct (by omega),cy,eF (by omega),List.map_nil,mo];simp only [lE];unfold HD;have e:=abD (s:=[33]) hv.st;cases f:v.2.2.2.1 with
   |nil=>
    rw [ct (by simp),cy,XV _ _ h4];simp [J]
   |cons b l=>
    rw [f] at e;have d:=hv.st;rw [f] at d;rw [cr (by simp),c9,Li _ _ (by decide) d.2 (by omega),b7,Ci _ _ _ (by simp only [eb,gj] at e ⊢; omega),b7,XV _ _ (by simp [h4]),j0 (by simp),Gh];simp [J]
theorem TS2:∀(N i:Nat) (a:Bool) (out:aE),i<=v.2.2.2.2.1.length->v.2.2.2.2.1.length+1<=N+i->out.length<=10000+i*1000->out≠[]->
  aw (Ll v) N (a,ba out,(i:Int))=some (out++J ((v.2.2.2.2.1.drop i).map (fI [45])++(v.2.2.2.2.2.map (fI [111])++HD v)))
 |0,i,a,out,h1,h2,_,_=>by omega
 |N+1,i,a,out,h1,h2,h3,h4=>by
  have e:=hv.s.1;have d:=hv.c.1;rw [ma];show (bif (decide ((i:Int)<(v.2.2.2.2.1.length:Int))) then _ else _)=_;by_cases hi:i<v.2.2.2.2.1.length
  .have hx:=hv.s.2 _ (qI hi);have b:=abD (s:=[45]) hx;rw [cr (by omega),c9,uU hi,b7,Li _ _ (by decide) hx.2 (by omega),b7,Ci _ _ _ (by simp only [eb,gj] at b ⊢; omega),b7,w1 (by omega),
    TS2 N (i+1) _ _ (by omega) (by omega) (by rw [b9];simp only [eb,gj] at b;omega) (by simp [h4]),gx hi,cx,de,Gh,aO]
  .rw [ct (by omega),cy,eF (by omega),List.map_nil,mo];exact TS3 hv az 0 a out (by omega) (iK (by omega)) (by omega) h4
theorem ao5:te v=some (J (Dw v)):=by
 have j:=hv.s.1;have key:∀(a:Bool) (h:aE),h.length<=9000->uq v a (ba ([]++(h++[10])))=some (J (h::(v.2.2.2.2.1.map (fI [45])++v.2.2.2.2.2.map (fI [111])++HD v))):=λa h m=>by unfold uq;have:=TS2 hv az 0 a (h++[10]) (by omega) (iK (by omega)) (by rw [b9];simp only [eb,gj];omega) (by simp);refine Eq.trans this ?_;rw [l9,Gh,aO (v.2.2.2.2.1.map _)]
 have p:=wz _ hv.e;have o:=wz _ hv.a;have b:∀w:aE,fI w []=w:=λw=>by simp [fI]
 unfold te Dw bP;simp only [lE];by_cases h:0<v.1/\v.1<4
 .rw [cr h.1,cr h.2,Bool.and_true,c9];have hc:v.1=1\/v.1=2\/v.1=3:=by omega
  have c:∀w:aE,w.length<1000->((kT w []).bind λg=>(bL g false []).bind λd=>uq v d.2.1 d.2.2)=some (J (w::(v.2.2.2.2.1.map (fI [45])++v.2.2.2.2.2.map (fI [111])++HD v))):=λw k=>by rw [Li w [] (by omega) (λn f=>by cases f) (by decide),b7,b];have:=Ci (w++[10]) false [] (by simp;omega);rw [show ba []=[] from rfl] at this;rw [this,b7];exact key true w (by omega)
  rcases hc with i|i|i <;> rw [i]
  .exact c [104,111,108,100,115] (by decide)
  .exact c [118,105,111,108,97,116,101,100] (by decide)
  .exact c [110,111,116,104,105,110,103] (by decide)
 .have:(decide (0<v.1)&&decide (v.1<4))=false:=by rw [Bool.and_eq_false_iff,qK,qK];omega
  rw [this,cy,j0 (by omega),j0 (by omega),j0 (by omega),show idx kc 0=some [101,114,114,111,114] from rfl,b7,
   Li _ _ (by decide) (λn f=>by
    rcases List.mem_cons.1 f with rfl|f
    .exact hv.e
    .rw [List.mem_singleton.1 f];exact hv.a) (by simp),b7]
  have l:(fI [101,114,114,111,114] [v.2.1,v.2.2.1]).length<=100:=by simp [fI];omega
  have:=Ci (fI [101,114,114,111,114] [v.2.1,v.2.2.1]++[10]) false [] (by rw [b9];simp only [eb,gj];omega);rw [show ba []=[] from rfl] at this;rw [this,b7];exact key true _ (by omega)
end
theorem acx(s:aE)(a:s.length<4294967296):∀(N i:Nat) (out:List aE) (w:aE),i<=s.length->s.length+1<=N+i->out.length<=i->w.length<=i->
  aw (rK s) N (out,w,(i:Int))=some (out++ln (s.drop i) w)
 |0,i,out,w,h1,h2,_,_=>by omega
 |N+1,i,out,w,h1,h2,h3,h4=>by
  rw [ma];show (bif (decide ((i:Int)<(s.length:Int))) then _ else _)=_;by_cases hi:i<s.length
  .have hb:((s[i].toNat:Int)==10)=(s[i]==10):=afG s[i] 10 (by decide);rw [cr (by omega),c9,ag4 (by omega) (by omega),cU,aca hi,hb,gx hi,ln,w1 (by omega)];cases hc:(s[i]==10) with
   |true=>
    rw [c9,lk rfl,AH (by simp;omega) (by simp;omega),cU,acx s a N (i+1) (out++[w]) [] (by omega) (by omega) (by simp;omega) (by simp)];simp
   |false=>
    rw [cy,j0 (by simp),Vr (by omega) (by omega) (by omega),cU,agn hi,jc (by simp;omega),cU,acx s a N (i+1) out (w++[s[i]]) (by omega) (by omega) (by omega) (by simp;omega)]
  .rw [ct (by omega),cy,eF (by omega),ln,iq]
theorem aks(s:aE)(a:s.length<4294967296):jP s=some (ln s []):=by have:=acx s a az 0 [] [] (by omega) (iK (by omega)) (by simp) (by simp);unfold jP;simpa using this
theorem Ur:∀(l cur:aE),∀w∈wl l cur,w.length<=cur.length+l.length
 |[],cur,w,a=>by
  rw [wl] at a;split at a
  .cases a
  .rw [List.mem_singleton.1 a];simp
 |b::l,cur,w,a=>by
  rw [wl] at a;split at a
  .split at a
   .have:=Ur l [] w a;simp at this ⊢; omega
   .rcases List.mem_cons.1 a with rfl|a
    .simp
    .have:=Ur l [] w a;simp at this ⊢; omega
  .have:=Ur l _ w a;simp at this ⊢; omega
theorem aju(a:aE)(c:a.length<4294967296):ga a=some (VJ (wl a [])):=agD a c λs b=>by have:=Ur a [] s b;simp at this;omega
end To
namespace To
theorem anJ:nC=some true:=by kernel_rfl
end To
namespace To
open Go.Lib
def Mn(l:vy):Bool:=l.all λx=>decide (x.length<=40)
theorem F2(l:vy×vy)(h:l.2.length<=20):∀(N i:Nat),i<=l.2.length->l.2.length+1<=N+i->aw (ue l) N (i:Int)=some (Mn (l.2.drop i))
 |0,i,h1,h2=>by omega
 |N+1,i,h1,h2=>by
  rw [ma];show (bif (decide ((i:Int)<(l.2.length:Int))) then _ else _)=_;by_cases hi:i<l.2.length
  .rw [cr (by omega),c9,uU hi,b7,gx hi,w1 (by omega),F2 l h N (i+1) (by omega) (by omega)];unfold Mn;rw [qt];by_cases hx:(l.2[i]).length<=40
   .rw [ct (by omega),cy,cr hx,qu]
   .rw [cr (by omega),c9,ct hx,tt]
  .rw [ct (by omega),cy,eF (by omega)];rfl
theorem F1(l:vy×vy)(h:l.1.length<=20)(a:l.2.length<=20):∀(N i:Nat),i<=l.1.length->l.1.length+1<=N+i->aw (tR l) N (i:Int)=some (Mn (l.1.drop i)&&Mn l.2)
 |0,i,h1,h2=>by omega
 |N+1,i,h1,h2=>by
  rw [ma];show (bif (decide ((i:Int)<(l.1.length:Int))) then _ else _)=_;by_cases hi:i<l.1.length
  .rw [cr (by omega),c9,uU hi,b7,gx hi,w1 (by omega),F1 l h a N (i+1) (by omega) (by omega)];unfold Mn;rw [qt];by_cases hx:(l.1[i]).length<=40
   .rw [ct (by omega),cy,cr hx,qu]
   .rw [cr (by omega),c9,ct hx,tt,tt]
  .rw [ct (by omega),cy,eF (by omega)];have:=F2 l a az 0 (by omega) (iK (by omega));rw [l9] at this;refine Eq.trans this ?_;rfl
def ac7(l:vy×vy):Bool:=decide (l.1.length<=20)&&decide (l.2.length<=20)&&(Mn l.1&&Mn l.2)
theorem apt(l:vy×vy):lr l 20=some (ac7 l):=by
 unfold lr ac7;simp only [lE];by_cases b:l.1.length<=20
 .by_cases a:l.2.length<=20
  .rw [ct (by omega),ct (by omega),Bool.or_false,cy,cr b,cr a];have:=F1 l b a az 0 (by omega) (iK (by omega));rw [l9] at this;exact this
  .rw [cr (show (20:Int)<(l.2.length:Int) by omega),Bool.or_true,c9,ct a,Bool.and_false];rfl
 .rw [cr (show (20:Int)<(l.1.length:Int) by omega),Bool.true_or,c9,ct b];rfl
structure alX(v:VT):Prop where
 e:i64 v.2.1
 a:i64 v.2.2.1
 st:∀n∈v.2.2.2.1,i64 n
 s:∀x∈v.2.2.2.2.1,∀n∈x,i64 n
 c:∀x∈v.2.2.2.2.2,∀n∈x,i64 n
theorem okv{v:VT}(hi:alX v)(b:ac7 v.2.2.2.2=true)(d:¬(40:Int)<(v.2.2.2.1.length:Int)):OkV v:=by unfold ac7 Mn at b;simp only [ae,n5,qy] at b;exact ⟨hi.e,hi.a,⟨by omega,hi.st⟩,⟨b.1.1,λx hx=>⟨b.2.1 x hx,hi.s x hx⟩⟩,⟨b.1.2,λx hx=>⟨b.2.2 x hx,hi.c x hx⟩⟩⟩
theorem abt{s:aE}(a:(kF s).2=false):∀l:List aE,jq (l++[s])=none
 |[]=>by simp [jq,a]
 |x::l=>by rw [de,jq,abt a l];split <;> rfl
theorem amu(a s:aE)(hb:nb s)(b:s≠[])(c:(kF s).2=false)(d:j4 s= -1):VJ (wl (a++32::s) [])=FU:=by
 rw [GW,UE hb b];cases wl a [] with
 |nil=>exact acd s [] (.inl (by rw [d];decide))
 |cons w l=>show Mc w (jq (l++[s]))=FU;rw [abt c l];rfl
end To
namespace To
open Go.Lib
theorem aiD(u:Nat):nb (decDigits u):=λb hb e=>by subst e;have:=(VN u _ hb).1;simp at this
theorem Lz(a b:Nat)(c:0<b):Int.tmod (a:Int) (b:Int)=((a%b:Nat):Int):=by rw [Int.tmod_eq_emod_of_nonneg (by omega)];omega
theorem aqF(x:Nat)(h:x<9223372036854775808):gA (x:Int)=some (decDigits x):=by rw [ajd _ (by omega) (by omega)];unfold itoa;rw [j0 (by omega),qq]
theorem amq(x:Nat)(h:x<1000000000):(decDigits x).length<=9:=by
 rw [decDigits_length];have key:∀(k u:Nat),u<10^(k+1)->nDigits u<=k+1:=by
  intro k
  induction k with
  |zero=>intro u a;rw [nDigits,dif_pos (by omega)];omega
  |succ k ih=>
   intro u a;rw [nDigits];split
   .omega
   .have:u/10<10^(k+1):=by rw [Nat.div_lt_iff_lt_mul (by omega)];rw [Nat.pow_succ] at a;exact a
    have:=ih _ this;omega
 exact key 8 x h
theorem ada(k x:Nat)(h:k+(decDigits x).length<=9):kF (List.replicate k 48++decDigits x)=((x:Int),true):=by have hp:0<(decDigits x).length:=List.length_pos_iff.2 (SN x);unfold kF ako;rw [j0 (by rw [b9,List.length_replicate];omega),ajF,akE]
def ws(s t:aE)(k:Nat):List aE:=(List.range k).map λj=>if j%2=0 then s else t
def xs(x y:Int)(k:Nat):x6:=(List.range k).map λj=>if j%2=0 then x else y
theorem ade{α:Type}(f:α->aE)(g:α->Int)(h:∀j,kF (f j)=(g j,true)):∀l:List α,jq (l.map f)=some (l.map g)
 |[]=>rfl
 |a::l=>by rw [cx,jq,ade f g h l,h a];rfl
theorem anW{s t:aE}{x y:Int}(b:kF s=(x,true))(a:kF t=(y,true))(k:Nat):jq (ws s t k)=some (xs x y k):=
 ade _ _ (λj=>by by_cases h:j%2=0 <;> simp only [h,qn,qF,b,a]) _
theorem aq3(s t:aE)(k:Nat):ws s t (k+1)=ws s t k++[if k%2=0 then s else t]:=by unfold ws;rw [List.range_succ,qB];rfl
theorem akQ(x y:Int):∀k:Nat,k<8->Mc [116,114,101,101] (some (xs x y k))=if k=2 then ((2,x,y,0,0,0),true) else FU
 |0,_|1,_|2,_|3,_|4,_|5,_|6,_|7,_=>rfl
 |k+8,h=>by omega
theorem aki(x y:Int):∀k:Nat,k<8->Mc [108,111,115,115,121] (some (xs x y k))=if k=5 then ((4,x,y,u64.wrap x,x,y),true) else FU
 |0,_|1,_|2,_|3,_|4,_|5,_|6,_|7,_=>rfl
 |k+8,h=>by omega
section
variable {a b c d : Nat} {lossy : Bool} (ha : a < 4294967296) (hb : b < 4294967296) (hc : c < 256) (hd : d < 256)
include ha hb hc hd
omit hc in
theorem N3(s w:aE)(g:Int)(u:kF s=(((a%1000000000:Nat):Int),true))(n:nb s)(l:s≠[])(m:s.length<=9)
  (r:(w,g)=if lossy then ([108,111,115,115,121],(5:Int)) else ([116,114,101,101],2)):∀(N i:Nat) (f:aE),i<=d%8->d%8+1<=N+i->f.length<=10+i*20->
  wl f []=w::ws s (decDigits (b%1000000000)) i->aw (gS ((a:Int),(b:Int),(c:Int),(d:Int),lossy) true s g) N (f,(i:Int))=some true
 |0,i,f,h1,h2,_,_=>by omega
 |N+1,i,f,h1,h2,h3,h4=>by
  have B:Int.tmod (IntKind.i64.wrap (a:Int)) 1000000000=((a%1000000000:Nat):Int):=by rw [xH (by omega)];exact Lz a 1000000000 (by omega)
  have v:Int.tmod (IntKind.i64.wrap (b:Int)) 1000000000=((b%1000000000:Nat):Int):=by rw [xH (by omega)];exact Lz b 1000000000 (by omega)
  have A:Int.tmod (IntKind.i64.wrap (d:Int)) 8=((d%8:Nat):Int):=by rw [xH (by omega)];exact Lz d 8 (by omega)
  have C:Int.tmod (i:Int) 2=((i%2:Nat):Int):=Lz i 2 (by omega);have p:=amq (b%1000000000) (sv _ (by omega));have k:=ada 0 (b%1000000000) (by omega);rw [List.replicate_zero,mo] at k;rw [ma];show (bif (decide ((i:Int)<Int.tmod (IntKind.i64.wrap (d:Int)) 8)) then _ else _)=_;rw [A];have h:∀q:aE,nb q->q≠[]->q.length<=9->q=(if i%2=0 then s else decDigits (b%1000000000))->i<d%8->
    aw (gS ((a:Int),(b:Int),(c:Int),(d:Int),lossy) true s g) N (((f++[32])++q),((i+1:Nat):Int))=some true:=λq y t x z hi=>by
   refine N3 s w g u n l m r N (i+1) _ (by omega) (by omega) (by simp;omega) ?_;rw [aO,p5,GW,h4,UE y t,aq3,<-z];rfl
  by_cases hi:i<d%8
  .rw [cr (by omega),c9,C,w1 (by omega)];by_cases hp:i%2=0
   .rw [hp,show ((((0:Nat):Int))==0)=true from rfl,c9,jc (by simp;omega),cU,jc (by simp;omega),cU];exact h s n l m (by rw [lk hp]) hi
   .rw [show (((i%2:Nat):Int)==0)=false by rw [qJ];omega,cy,jc (by simp;omega),cU];rw [show Int.tmod (IntKind.i64.wrap ((a:Int),(b:Int),(c:Int),(d:Int),lossy).2.1) 1000000000=((b%1000000000:Nat):Int) from v,aqF _ (by omega),b7,jc (by simp;omega),cU];exact h _ (aiD _) (SN _) p (by rw [j0 hp]) hi
  .have o:i=d%8:=by omega
   rw [ct (by omega),cy,aju f (by omega),b7,jc (by simp;omega),cU,
    show f++([32,49,50,51,52,53,54,55,56,57,48]:aE)=f++32::[49,50,51,52,53,54,55,56,57,48] from rfl,aju _ (by simp;omega),b7,
    amu f [49,50,51,52,53,54,55,56,57,48] (by intro b hb e;subst e;revert hb;decide) (by decide) (by decide) (by decide),h4]
   simp only [lE];rw [show VJ (w::ws s (decDigits (b%1000000000)) i)=Mc w (jq (ws s (decDigits (b%1000000000)) i)) from rfl,anW u k,show FU.2=false from rfl];simp only [B,v];cases lossy with
   |true=>
    obtain ⟨rfl,rfl⟩:w=[108,111,115,115,121]/\g=5:=by simpa using r
    rw [aki _ _ i (by omega)];by_cases j:i=5
    .rw [lk j,<-o,j];simp
    .rw [j0 j,<-o,show (((i:Nat):Int)==5)=false by rw [qJ];omega];rfl
   |false=>
    obtain ⟨rfl,rfl⟩:w=[116,114,101,101]/\g=2:=by simpa using r
    rw [akQ _ _ i (by omega)];by_cases j:i=2
    .rw [lk j,<-o,j];simp
    .rw [j0 j,<-o,show (((i:Nat):Int)==2)=false by rw [qJ];omega];rfl
theorem N1:∀(N i k:Nat),i<=9->10<=N+i->k+(decDigits (a%1000000000)).length<=9->
  aw (gU ((a:Int),(b:Int),(c:Int),(d:Int),lossy) true) N (List.replicate k 48++decDigits (a%1000000000),(i:Int))=some true
 |0,i,k,h1,h2,_=>by omega
 |N+1,i,k,h1,h2,h3=>by
  have n:Int.tmod (IntKind.i64.wrap (c:Int)) 9=((c%9:Nat):Int):=by rw [xH (by omega)];exact Lz c 9 (by omega)
  have ih:=N1 N (i+1) (k+1);rw [ma];generalize aw (gU ((a:Int),(b:Int),(c:Int),(d:Int),lossy) true) N=f at ih ⊢;unfold gU;simp only [lE];rw [n];by_cases hi:i<c%9/\k+(decDigits (a%1000000000)).length<9
  .rw [cr (by omega),cr (by simp;omega),Bool.and_true,c9,jc (by simp;omega),cU,w1 (by omega)];have:=ih (by omega) (by omega) (by omega);rw [qi,de] at this;exact this
  .have:(decide ((i:Int)<((c%9:Nat):Int))&&decide (((List.replicate k 48++decDigits (a%1000000000)).length:Int)<9))=false:=by rw [Bool.and_eq_false_iff,qK,qK];simp only [b9,List.length_replicate];omega
   rw [this,cy];have j:nb (List.replicate k 48++decDigits (a%1000000000)):=λb hb=>by
    rcases List.mem_append.1 hb with hb|hb
    .rw [(List.mem_replicate.1 hb).2];decide
    .exact aiD _ b hb
   have g:∀(w:aE) (e:Int),((w,e)=if lossy then ([108,111,115,115,121],(5:Int)) else ([116,114,101,101],2))->w.length<=10->wl w []=[w]->gV ((a:Int),(b:Int),(c:Int),(d:Int),lossy) true (List.replicate k 48++decDigits (a%1000000000)) w e=some true:=λw e m l h=>by unfold gV;exact N3 ha hb hd _ w e (ada k _ h3) j (by simp [SN]) (by simp;omega) m az 0 w (by omega) (iK (by omega)) (by omega) (by rw [h];rfl)
   cases lossy with
   |true=>exact g [108,111,115,115,121] 5 rfl (by decide) (by decide)
   |false=>exact g [116,114,101,101] 2 rfl (by decide) (by decide)
end
end To
namespace To
open Go.Lib
abbrev ni(p:UInt8×x6):aE:=fI [p.1] p.2
theorem S5(all:vy)(i:Nat)(a:Int->w4)(c:aE)(x:x6)(hx:idx all (i:Int)=some x)(hi:∀n∈x,i64 n)(e:x.length<=40)(hb:i<1000):∀(N k:Nat),k<=x.length->x.length+1<=N+k->
  aw (dS all (i:Int) a (c::x.map itoa)) N (k:Int)=a ((i+1:Nat):Int)
 |0,k,h1,h2=>by omega
 |N+1,k,h1,h2=>by
  have ih:=S5 all i a c x hx hi e hb N (k+1);rw [ma];generalize aw (dS all (i:Int) a (c::x.map itoa)) N=f at ih ⊢;unfold dS;rw [hx,b7];by_cases d:k<x.length
  .have b:=hi _ (qI d);rw [cr (by omega),c9,w1 (by omega),uU (l:=c::x.map itoa) (i:=k+1) (by simp;omega),b7,b7,uU d,b7,ajd _ b.1 b.2,b7,
    List.getElem_cons_succ,qH,show (itoa x[k] != itoa x[k])=false by simp,cy]
   exact ih (by omega) (by omega)
  .rw [ct (by omega),cy,w1 (by omega)]
structure OkA(A:List (UInt8×x6)):Prop where
 l:A.length<=41
 p:∀p∈A,p.1≠32/\p.1≠10/\p.2.length<=40/\∀n∈p.2,i64 n
theorem S4(A:List (UInt8×x6))(c:OkA A)(h:aE):∀(N i:Nat),i<=A.length->A.length+1<=N+i->
  aw (fy true (h::A.map ni) (A.map (·.2)) (A.map (·.1))) N (i:Int)=some true
 |0,i,h1,h2=>by omega
 |N+1,i,h1,h2=>by
  have ih:=S4 A c h N (i+1);have n:=c.l;rw [ma];generalize aw (fy true (h::A.map ni) (A.map (·.2)) (A.map (·.1))) N=f at ih ⊢;unfold fy;by_cases hi:i<A.length
  .obtain ⟨g,m,e,d⟩:=c.p _ (qI hi);have k:=HM [A[i].1] A[i].2 d;have hx:idx (A.map (·.2)) (i:Int)=some A[i].2:=by rw [uU (by simpa using hi),qH]
   have j:cut (A.map (·.1)) (i:Int) ((i+1:Nat):Int)=[A[i].1]:=by rw [agn (by simpa using hi),qH]
   have a:wl (ni A[i]) []=[A[i].1]::A[i].2.map itoa:=afR _ _ (λb hb=>by rw [List.mem_singleton.1 hb];exact g) (by simp);rw [cr (by simp;omega),c9,w1 (by omega),uU (l:=h::A.map ni) (i:=i+1) (by simp;omega),b7,List.getElem_cons_succ,qH,
    amp _ (by simp only [eb,gj] at k;show (fI _ _).length<_;omega),b7,a,hx,b7]
   simp only [lE];rw [show (((([A[i].1]::A[i].2.map itoa).length:Nat):Int) != IntKind.i64.wrap (1+(A[i].2.length:Int)))=false by rw [bne_eq_false_iff_eq,xH (by omega)];simp;omega,Bool.not_false,al2,
    show idx ([A[i].1]::A[i].2.map itoa) 0=some [A[i].1] from rfl,b7,Vr (by omega) (by omega) (by simp;omega),V7,j,show (([A[i].1]:aE) != [A[i].1])=false by simp,Bool.or_false,cy,
    show aw (dS (A.map (·.2)) (i:Int) f ([A[i].1]::A[i].2.map itoa)) az 0=_ from S5 _ i f [A[i].1] A[i].2 hx d e (by omega) az 0 (by omega) (iK (by omega))]
   exact ih (by omega) (by omega)
  .rw [ct (by simp;omega),cy]
def AL(v:VT):List (UInt8×x6):=v.2.2.2.2.1.map (λx=>(45,x))++v.2.2.2.2.2.map (λx=>(111,x))++(if v.2.2.2.1=[] then [] else [(33,v.2.2.2.1)])
theorem afp(v:VT):Dw v=bP v::(AL v).map ni:=by unfold Dw AL HD;rw [qB,qB,qG,qG];split <;> rfl
section
variable {v : VT} (hv : OkV v)
include hv
theorem okA:OkA (AL v):=by
 constructor
 .have b:=hv.s.1;have a:=hv.c.1;unfold AL;split <;> simp <;> omega
 .intro p hp;unfold AL at hp;rcases List.mem_append.1 hp with hp|hp
  .rcases List.mem_append.1 hp with hp|hp
   .obtain ⟨x,hx,rfl⟩:=List.mem_map.1 hp;exact ⟨(show (45:UInt8)≠32 by decide),(show (45:UInt8)≠10 by decide),hv.s.2 x hx⟩
   .obtain ⟨x,hx,rfl⟩:=List.mem_map.1 hp;exact ⟨(show (111:UInt8)≠32 by decide),(show (111:UInt8)≠10 by decide),hv.c.2 x hx⟩
  .split at hp
   .cases hp
   .rw [List.mem_singleton.1 hp];exact ⟨(show (33:UInt8)≠32 by decide),(show (33:UInt8)≠10 by decide),hv.st⟩
theorem aoZ:nl (bP v)/\(bP v).length<=900:=by
 have c:=wz _ hv.e;have b:=wz _ hv.a;unfold bP;split
 .exact ⟨(by unfold nl;decide),(by decide)⟩
 .split
  .exact ⟨(by unfold nl;decide),(by decide)⟩
  .split
   .exact ⟨(by unfold nl;decide),(by decide)⟩
   .exact ⟨afg _ (by unfold nl;decide) _,by simp [fI];omega⟩
theorem aoa:(∀w∈Dw v,nl w)/\(J (Dw v)).length<=42000:=by
 have c:=okA hv;have d:=aoZ hv;rw [afp];constructor
 .intro w a;rcases List.mem_cons.1 a with rfl|a
  .exact d.1
  .obtain ⟨p,hp,rfl⟩:=List.mem_map.1 a;exact afg _ (λb hb=>by rw [List.mem_singleton.1 hb];exact (c.p p hp).2.1) _
 .have key:∀L:List (UInt8×x6),(∀p∈L,p∈AL v)->(J (L.map ni)).length<=L.length*1000:=by
   intro L
   induction L with
   |nil=>intro _;simp [J]
   |cons p L ih=>
    intro h;obtain ⟨_,_,j,f⟩:=c.p p (h p (bj ..));have e:(ni p).length<=_:=HM [p.1] p.2 f;have i:=ih λq g=>h q (.tail _ g);rw [cx,Gh,b9,b9];simp only [eb,gj] at e ⊢;omega
  have e:=key (AL v) λp hp=>hp;have i:=c.l;rw [Gh,b9,b9];simp only [eb,gj];have:=d.2;omega
theorem am7(all:vy)(a:aE)(d:all=(AL v).map (·.2))(c:a=(AL v).map (·.1)):iQ true (bP v::(AL v).map ni) all a=some true:=by have b:=okA hv;have:=b.l;subst d c;unfold iQ;rw [show ((((bP v::(AL v).map ni).length:Nat):Int) != IntKind.i64.wrap (1+(((AL v).map (·.2)).length:Int)))=false by rw [bne_eq_false_iff_eq,xH (by simp;omega)];simp;omega,cy];exact S4 (AL v) b _ az 0 (by omega) (iK (by omega))
theorem S2:∀(N i:Nat),i<=v.2.2.2.2.2.length->v.2.2.2.2.2.length+1<=N+i->
  aw (fz v true (bP v::(AL v).map ni)) N (v.2.2.2.2.1.map (λ_=>(45:UInt8))++List.replicate i 111,(i:Int))=some true
 |0,i,h1,h2=>by omega
 |N+1,i,h1,h2=>by
  have ih:=S2 N (i+1);have hc:=hv.c.1;have e:=hv.s.1;rw [ma];generalize aw (fz v true (bP v::(AL v).map ni)) N=f at ih ⊢;unfold fz;simp only [lE];by_cases hi:i<v.2.2.2.2.2.length
  .rw [cr (by omega),c9,jc (by simp;omega),cU,w1 (by omega),aO,<-List.replicate_succ'];exact ih (by omega) (by omega)
  .have d:v.2.2.2.2.2.map (λ_=>(111:UInt8))=List.replicate i 111:=by rw [List.map_const'];congr 1;omega
   rw [ct (by omega),cy,mo];cases a:v.2.2.2.1 with
   |nil=>
    rw [ct (by simp),cy];exact am7 hv _ _ (by unfold AL;rw [lk a];simp [q7]) (by unfold AL;rw [lk a];simp [q7,<-d])
   |cons b l=>
    rw [cr (by simp),c9,AH (by simp;omega) (by simp;omega),cU,jc (by simp;omega),cU];exact am7 hv _ _ (by unfold AL;rw [j0 (by rw [a];simp),a];simp [q7]) (by unfold AL;rw [j0 (by rw [a];simp)];simp [q7,<-d])
theorem S1:∀(N i:Nat),i<=v.2.2.2.2.1.length->v.2.2.2.2.1.length+1<=N+i->
  aw (fv v true (bP v::(AL v).map ni)) N (List.replicate i 45,(i:Int))=some true
 |0,i,h1,h2=>by omega
 |N+1,i,h1,h2=>by
  have ih:=S1 N (i+1);have b:=hv.s.1;rw [ma];generalize aw (fv v true (bP v::(AL v).map ni)) N=f at ih ⊢;unfold fv;dsimp only;by_cases hi:i<v.2.2.2.2.1.length
  .rw [cr (by omega),c9,jc (by simp;omega),cU,w1 (by omega),<-List.replicate_succ'];exact ih (by omega) (by omega)
  .have a:List.replicate i 45=v.2.2.2.2.1.map (λ_=>(45:UInt8)):=by rw [List.map_const'];congr 1;omega
   have:=S2 hv az 0 (by omega) (iK (by have:=hv.c.1;omega));rw [ct (by omega),cy,a];rw [List.replicate_zero,iq] at this;exact this
end
theorem aha(v:VT)(hi:alX v):gK v=some true:=by
 unfold gK;rw [anJ,b7,apt,b7];simp only [lE];cases d:ac7 v.2.2.2.2 with
 |false=>rw [Bool.not_false,Bool.true_or,c9]
 |true=>
  rw [Bool.not_true,qv];by_cases a:(40:Int)<(v.2.2.2.1.length:Int)
  .rw [cr a,c9]
  .have hv:=okv hi d a;have b:=aoa hv;have f:=hv.s.1;have e:=hv.c.1;rw [ct a,cy,ao5 hv,b7,aks _ (by omega),b7,show ln (J (Dw v)) []=Dw v from ae9 _ b.1,AH (by simp;omega) (by simp;omega),cU,
    AH (by simp;omega) (by simp;omega),cU,afp]
   exact S1 hv az 0 (by omega) (iK (by omega))
end To
variable {P : Program} {w : World}
open Go.Lib Go.ChangeAt Go.ChangeShapes Go.WideShapes Go.RowKit
theorem W3{P:Program}{w:World}:∀(l:List (String×DataW Unit)) (ps:List MemPlace),DataW.LaidVars P w l ps->∀(i:Nat) (n:String) (d:DataW Unit),l[i]? =some (n,d)->
  ∃g t cs a p,P.globalNamed n=some g/\(P.globals[g]?).map (·.type)=some t/\w.var? P n=some cs/\DataW.trod (λ_=>()) P w 0 (λ_=>true) false a t cs.toList=some (d,p)
 |[],_,_,i,n,d,h=>by simp at h
 |(n0,d0)::l,ps,h,i,n,d,hi=>by
  obtain ⟨g,t,cs,a,p,q,j,f,e,c,b,_⟩:=h;cases i with
  |zero=>
   simp only [ec,b8,p0] at hi;obtain ⟨rfl,rfl⟩:=hi;exact ⟨g,t,cs,a,p,j,f,e,c⟩
  |succ i=>exact W3 l q b i n d (by simpa using hi)
theorem ZN{H:Type}{enc:TypeId×Value->H}{f:Nat}{q:Nat->Bool}{d:Bool}{a:Nat}{t e:TypeId}{n:Nat}{cs:w9}{zs:List aE}{p:List MemPlace}
  (u:P.underlying t=some (.array n e)) (x:P.underlying e=some .string) (l:P.cellsOf e=1) (k:P.cellsOf t=n)
  (h:DataW.trod enc P w f q d a t cs=some (.agg (zs.map λz=> .lit (.string z)),p)):cs=zs.map S:=by
 cases a with
 |zero=>simp [DataW.trod] at h
 |succ a=>
  simp only [DataW.trod,u,l,k,q9] at h;split at h
  .rename_i B;obtain ⟨xs,o,hx⟩:=Option.map_eq_some_iff.1 h;have c:xs.map (·.1)=zs.map λz=>(DataW.lit (.string z):DataW H):=by have:=congrArg Prod.fst hx;simpa using this
   have s:xs.length=n:=by simpa using mapM_length o
   have r:zs.length=n:=by have:=congrArg List.length c;simp at this;omega
   apply qp;intro i;by_cases hi:i<n
   .obtain ⟨b,hb,v⟩:=mapM_at o i i (by simp [hi]);obtain ⟨z,hc,rfl,_⟩:=DataW.trod_string x v;have y:cs[i]? =some (.string z):=by have:=congrArg (·[0]?) hc;simpa [kR,j5] using this
    have m:(xs.map (·.1))[i]? =some (DataW.lit (.string z.data.toList):DataW H):=by simp [hb]
    rw [c] at m;simp only [n9,Option.map_eq_some_iff,DataW.lit.injEq,Lit.string.injEq] at m;obtain ⟨A,j,g⟩:=m;subst g;simp [y,j,S]
   .rw [j6 (by omega),j6 (by simp;omega)]
  .cases h
theorem ahu{a:List (String×DataW Unit)}(b:(a.filter λx=>x.2.handleName?.isSome)=[])(h:laidMetH P a w):laidMet P a w:=by unfold laidMetH at h;rw [b] at h;exact h
theorem Nj{a:List (String×DataW Unit)}{Γ:Ctx}(h:laidMet P a w)(i:Nat){n:String}{zs:List aE}{g:Nat}{t e:TypeId}{k:Nat}
  (hi:a[i]? =some (n,.agg (zs.map λz=> .lit (.string z)))) (m:P.globalNamed n=some g) (b:(P.globals[g]?).map (·.type)=some t)
  (q:P.underlying t=some (.array k e)) (s:P.underlying e=some .string) (l:P.cellsOf e=1) (j:P.cellsOf t=k) (u:¬ Γ.M g):(gl g (zs.map S)).P Γ.M w:=by
 obtain ⟨ps,r,_⟩:=h;obtain ⟨g',t',cs,o,p,f,d,hv,hd⟩:=W3 _ _ r i n _ hi;obtain rfl:=qa (m.symm.trans f);obtain rfl:=qa (b.symm.trans d);have v:=ZN q s l j hd;refine ⟨u,?_⟩;unfold World.var? at hv;rw [m] at hv;simp only [b7] at hv;split at hv
 next c ty fr hb=>obtain rfl:=qa hv;exact ⟨ty,fr,by rw [hb,<-v]⟩
 .cases hv
theorem aoR{a:List (String×DataW Unit)}{Γ:Ctx}(h:laidMet P a w)(i:Nat){n:String}{kd:IntKind}{zs:x6}{g:Nat}{t e:TypeId}{k:Nat}
  (hi:a[i]? =some (n,tabData kd zs)) (m:P.globalNamed n=some g) (b:(P.globals[g]?).map (·.type)=some t)
  (q:P.underlying t=some (.array k e)) (s:P.underlying e=some (.int kd)) (l:P.cellsOf e=1) (j:P.cellsOf t=k) (u:¬ Γ.M g):(gl g (zs.map (Value.int kd))).P Γ.M w:=by
 obtain ⟨ps,r,_⟩:=h;obtain ⟨g',t',cs,o,p,f,d,hv,hd⟩:=W3 _ _ r i n _ hi;obtain rfl:=qa (m.symm.trans f);obtain rfl:=qa (b.symm.trans d);have v:=cells_of_tab q s l j hd;refine ⟨u,?_⟩;unfold World.var? at hv;rw [m] at hv;simp only [b7] at hv;split at hv
 next c ty fr hb=>obtain rfl:=qa hv;exact ⟨ty,fr,by rw [hb,<-v]⟩
 .cases hv
def Ha(Γ:Ctx):Prop:= ∀b,¬ Γ.M b
theorem afc:Ha []:=λb h=>by obtain ⟨it,h,_⟩:=h;cases h
theorem rS{it:Item}{Γ:Ctx}(hp:it.own=[])(h:Ha Γ):Ha (it::Γ):=λb hb=>by
 rcases Ctx.AM.1 hb with a|a
 .rw [hp] at a;cases a
 .exact h b a
theorem akk(w:World):Sat [kept w (λ_=>False)] w:=Sat.nil.add rfl ⟨fO.refl w,bb _,λb _ _=>⟨afc b,rfl⟩⟩
theorem ai1(w:World):Ha [kept w (λ_=>False)]:=rS rfl afc
theorem amY{Γ:Ctx}(h:Ha Γ):Mv (λ_=>False) w Γ.M w:=⟨bb _,λb _ _=>⟨h b,rfl⟩⟩
theorem aj5{w':World}{Γ:Ctx}(h:Sat Γ w')(hi:Γ[i]? =some (kept w (λ_=>False))):Below w.heap.size w w':=by obtain ⟨a,d,c⟩:=h.kept hi;exact ⟨a.os,a.tape,a.output,d,λk b=>(c k b (λh=>h)).2⟩
theorem Vc{Y:Type}(R:Nat->Y->Ex->Prop):∀(ys:List Y),(∀i y,ys[i]? =some y->∃e,R i y e)->∃l:List Ex,l.length=ys.length/\∀i y e,ys[i]? =some y->l[i]? =some e->R i y e
 |[],_=>⟨[],rfl,λi y e h=>by simp at h⟩
 |y::ys,h=>by
  obtain ⟨e,f⟩:=h 0 y rfl;obtain ⟨l,d,c⟩:=Vc (λi=>R (i+1)) ys (λi y a=>h (i+1) y (by simpa using a));refine ⟨e::l,by simp [d],λi b e' a hx=>?_⟩;cases i with
  |zero=>
   simp only [ec,b8] at a hx;subst a;subst hx;exact f
  |succ i=>exact c i b e' (by simpa using a) (by simpa using hx)
theorem aiK{H:Type}:∀(l:List Ex) (ds:List (DataW H)),l.length=ds.length->(∀(i:Nat) (e:Ex) (d:DataW H),l[i]? =some e->ds[i]? =some d->e.sz<=Rows.uptoBulk d)->szL l<=Rows.uptoBulkAll ds
 |[],[],_,_=>bb _
 |e::l,d::ds,hl,h=>by
  have c:=h 0 e d rfl rfl;have b:=aiK l ds (by simpa using hl) (λi e d a hd=>h (i+1) e d (by simpa using a) (by simpa using hd));simp only [szL,Rows.uptoBulkAll];omega
 |[],_::_,h,_=>by simp at h
 |_::_,[],h,_=>by simp at h
theorem Rm{H:Type}(d:DataW H):1<=Rows.uptoBulk d:=by
 cases d with
 |lit l=>cases l <;> simp [Rows.uptoBulk]
 |nil=>simp [Rows.uptoBulk]
 |ptr d=>simp [Rows.uptoBulk]
 |slice e b=>simp [Rows.uptoBulk]
 |agg c=>simp [Rows.uptoBulk]
 |iface t d=>simp [Rows.uptoBulk]
 |map a=>simp [Rows.uptoBulk]
 |held h=>simp [Rows.uptoBulk]
theorem C0{H:Type}{d:DataW H}:∀{l:List (DataW H)},d∈l->Rows.uptoBulk d<=Rows.uptoBulkAll l
 |x::r,h=>by
  simp only [Rows.uptoBulkAll];rcases List.mem_cons.1 h with rfl|h
  .omega
  .have:=C0 h;omega
structure aiU(P:Program)(t:TypeId):Prop where
 fields:∃(fs:Array Field) (f0 f1 f2 f3:Field),P.underlying t=some (.struct fs)/\fs.size=4/\fs[0]? =some f0/\fs[1]? =some f1/\fs[2]? =some f2/\fs[3]? =some f3/\
  (f0.offset=0/\P.underlying f0.type=some (.int .i64)/\P.cellsOf f0.type=1)/\(f1.offset=1/\P.underlying f1.type=some (.int .i64)/\P.cellsOf f1.type=1)/\
  (f2.offset=2/\P.underlying f2.type=some (.int .i64)/\P.cellsOf f2.type=1)/\(f3.offset=3/\P.underlying f3.type=some (.slice t)/\P.cellsOf f3.type=1)
 cells:P.cellsOf t=4
theorem apC{a:Nat}{t:TypeId}{v:Value}{c:Array Field}(b:P.underlying t=some (.struct c))(h:Value.okWide P w .any a t v):
  ∃cs,v= .agg cs/\cs.size=P.cellsOf t/\Row.okWide P w .any a t cs:=by
 unfold Value.okWide at h;rw [b] at h;exact h
theorem ahv{a:Addr}{v:Value}(h:w.cell? a=some v):a.spot=none/\∃cs e fr,w.heap[a.block]? =some (.cells cs e fr)/\cs[a.off]? =some v:=by
 unfold World.cell? at h;split at h
 .rename_i cs e fr hb;split at h
  .cases h
  next b=>exact ⟨by simpa using b,cs,e,fr,hb,h⟩
 .cases h
theorem agF{H:Type}{enc:TypeId×Value->H}{W:World}{t:TypeId}(L:aiU P t):∀(o:Nat) (cs:w9) (x:DataW H×List MemPlace),
  DataW.trod enc P W 0 (λ_=>true) true o t cs=some x->∃e,ug (λ_=>False) W cs e/\e.sz<=Rows.uptoBulk x.1:=by
 intro o
 induction o using Nat.strongRecOn with
 |ind o ih=>
 intro cs x h;obtain ⟨⟨fs,f0,f1,f2,f3,hT,hsz,g0,g1,g2,g3,⟨o0,u0,c0⟩,⟨o1,u1,c1⟩,⟨o2,u2,c2⟩,⟨o3,u3,c3⟩⟩,hc⟩:=L;obtain ⟨xs,n,rfl,rfl,hl,C,V⟩:=DataW.trod_struct hT h;rw [hc] at hl;rw [hsz] at C;obtain ⟨a0,U,T,B,rfl⟩:∃a0 U T B,cs=[a0,U,T,B]:=by
  match cs,hl with
  |[a,b,c,d],_=>exact ⟨a,b,c,d,rfl⟩
 obtain ⟨x0,x1,x2,z,rfl⟩:∃a0 U T B,xs=[a0,U,T,B]:=by
  match xs,C with
  |[a,b,c,d],_=>exact ⟨a,b,c,d,rfl⟩
 have Y:=V 0 f0 g0;have t1:=V 1 f1 g1;have t2:=V 2 f2 g2;have X:=V 3 f3 g3;rw [o0,c0] at Y;rw [o1,c1] at t1;rw [o2,c2] at t2;rw [o3,c3] at X;simp only [l9,qU,List.take_zero,List.drop_succ_cons,ec,cf] at Y t1 t2 X;obtain ⟨w,e0,_,_⟩:=DataW.trod_int u0 Y;obtain ⟨v,e1,_,_⟩:=DataW.trod_int u1 t1;obtain ⟨u,e2,_,_⟩:=DataW.trod_int u2 t2;obtain rfl:a0= .int .i64 w:=by simpa using e0
 obtain rfl:U= .int .i64 v:=by simpa using e1
 obtain rfl:T= .int .i64 u:=by simpa using e2
 have hb:∀d,z.1=d->Rows.uptoBulk d+1<=Rows.uptoBulk (DataW.agg ([x0,x1,x2,z].map (·.1))):=λd hd=>by subst hd;have:=C0 (d:=z.1) (l:=[x0,x1,x2,z].map (·.1)) (by simp);simp only [Rows.uptoBulk];omega
 rcases DataW.trod_slice u3 X with ⟨p,D⟩|⟨a,len,cap,f,rest,m,rfl,p,D,_,hlc,_,I,N,hsp,_⟩
 .obtain rfl:B= .slice none 0 0:=by simpa using p
  refine ⟨.mk w v u [],.nil w v u none,?_⟩;have:=hb _ rfl;have:=Rm z.1;simp only [Ex.sz,szL];omega
 .obtain rfl:B= .slice (some a) len cap:=by simpa using p
  obtain ⟨hrl,F⟩:=hsp rfl;rw [hc] at N F
  -- all of it is there
  have cell:∀i,i<cap->∃us y,W.cells? 0 (a.add (i*4)) 4=some us/\us.length=4/\(∀j,j<4->W.cell? ((a.add (i*4)).add j)=us[j]?)/\DataW.trod enc P W 0 (λ_=>true) true m t us=some y/\(i<len->f[i]? =some y):=λi hi=>by
   by_cases K:i<len
   .obtain ⟨y,q⟩:∃y,f[i]? =some y:=⟨f[i]'(by omega),cb _⟩;have:=N i K;rw [q,qL] at this;obtain ⟨us,A,R⟩:=this;obtain ⟨_,p,s⟩:=World.cells?_some A;exact ⟨us,y,A,p,s,R,λ_=>q⟩
   .obtain ⟨y,q⟩:∃y,rest[i-len]? =some y:=⟨rest[i-len]'(by omega),cb _⟩;have:=F (i-len) (by omega);rw [q,qL] at this;obtain ⟨us,A,R⟩:=this;have e:len+(i-len)=i:=by omega
    rw [e] at A;obtain ⟨_,p,s⟩:=World.cells?_some A;exact ⟨us,y,A,p,s,R,λh=>absurd h K⟩
  by_cases O:cap=0
  .subst O;obtain rfl:len=0:=by omega
   refine ⟨.mk w v u [],.nil w v u (some a),?_⟩;have:=hb _ rfl;have:=Rm z.1;simp only [Ex.sz,szL];omega
  .obtain ⟨us0,_,_,hl0,hc0,_⟩:=cell 0 (by omega);have S:=hc0 0 (by omega);rw [cb (by omega)] at S;obtain ⟨hs,k,e',fr,Q,_⟩:=ahv S;have E:a.spot=none:=by simpa [Addr.add] using hs
   have g:W.heap[a.block]? =some (.cells k e' fr):=by simpa [Addr.add] using Q
   obtain ⟨b,off,sp⟩:=a;simp only at E g;subst E;have at_:∀i j,((⟨b,off,none⟩:Addr).add (i*4)).add j=⟨b,off+i*4+j,none⟩:=λi j=>by unfold Addr.add;split <;> split <;> simp_all
   have r:∀i,i<cap->∃us y,us.length=4/\(∀j,j<4->k[off+i*4+j]? =us[j]?)/\DataW.trod enc P W 0 (λ_=>true) true m t us=some y/\(i<len->f[i]? =some y):=λi hi=>by obtain ⟨us,y,_,p,s,h5,h6⟩:=cell i hi;refine ⟨us,y,p,λj J=>?_,h5,h6⟩;have:=s j J;rw [at_] at this;simpa [World.cell?,g] using this
   have hsize:off+cap*4<=k.size:=by obtain ⟨us,_,p,s,_⟩:=r (cap-1) (by omega);have:=s 3 (by omega);rw [cb (by omega)] at this;have:=(Array.getElem?_eq_some_iff.1 this).1;omega
   have M:∀i y,f[i]? =some y->∃e,(ug (λ_=>False) W (((k.toList.drop off).drop (i*4)).take 4) e/\e.sz<=Rows.uptoBulk y.1):=λi y q=>by
    have hi:i<len:=by rw [<-I];exact (List.getElem?_eq_some_iff.1 q).1
    obtain ⟨us,y',p,s,h5,h6⟩:=r i (by omega);obtain rfl:y'=y:=by have:=h6 hi;rw [q] at this;exact (qa this).symm
    have Z:((k.toList.drop off).drop (i*4)).take 4=us:=by
     apply qp;intro j;by_cases J:j<4
     .rw [kR,lk J,j5,j5,<-s j J];simp [qs]
     .rw [kR,j0 J,j6 (by omega)]
    rw [Z];exact ih m (by omega) us y' h5
   obtain ⟨l,hll,hR⟩:=Vc (λi y e=>ug (λ_=>False) W (((k.toList.drop off).drop (i*4)).take 4) e/\e.sz<=Rows.uptoBulk y.1) f M;have G:l.length=len:=by omega
   refine ⟨.mk w v u l,?_,?_⟩
   .rw [<-G];refine .some w v u l b off cap k e' fr (λh=>h) g (by omega) (by omega) ?_ (λi hi=>?_)
    .simp only [b0,cq,ch];omega
    .obtain ⟨y,q⟩:∃y,f[i]? =some y:=⟨f[i]'(by omega),cb _⟩;have:=(hR i y l[i] q (cb _)).1;rw [qc,n7];have e4:min 4 (l.length*4-i*4)=4:=by omega
     rw [e4];exact this
   .have A:=aiK l (f.map (·.1)) (by simp [hll]) (λi e d he hd=>by rw [n9,Option.map_eq_some_iff] at hd;obtain ⟨y,q,rfl⟩:=hd;exact (hR i y e q he).2)
    have R:z.1= .slice (f.map (·.1)) (rest.map (·.1)):=by rw [D]
    have p:=hb _ R;simp only [Ex.sz];have s:Rows.uptoBulk (DataW.slice (f.map (·.1)) (rest.map (·.1)))=Rows.uptoBulkAll (f.map (·.1))+Rows.uptoBulkAll (rest.map (·.1))+1:=by simp only [Rows.uptoBulk]
    omega
variable {Q : Nat -> Prop} {W : World}
open Go.ChangeMaps (open_string)
def rN:Ty->u9
 | .p a b=>rN a++rN b
 | .l _|.ex=>[none]
 |_=>[]
def aqa:Ty->Pt
 | .i k=> .int k
 | .bo=> .bool
 | .s=> .str
 | .l t=> .sli t
 |t=> .dat t (rN t)
def Jh(Q:Nat->Prop):(t:Ty)->t.T->Prop
 | .i k,x=>(Lit.int k x).wf=true
 | .s,x=>x.length<=9223372036854775807
 | .p a b,x=>Jh Q a x.1/\Jh Q b x.2
 | .l t,x=>(List.length (α:=t.T) x<=9223372036854775807/\Q (List.length (α:=t.T) x))/\∀y:t.T,List.Mem y x->Jh Q t y
 | .ex,x=>Q x.sz
 |_,_=>True
def Mu(P:Program)(t:TypeId):Bool:=(match P.underlying t with
 |some (.int .i64)=>true
 |_=>false)&&P.cellsOf t==1
def exB(P:Program)(t:TypeId):Bool:=(match P.underlying t with
 |some (.struct fs)=>(match fs.toList with
  |[f0,f1,f2,f3]=>f0.offset==0&&Mu P f0.type&&(f1.offset==1&&Mu P f1.type)&&(f2.offset==2&&Mu P f2.type)&&(f3.offset==3&&P.cellsOf f3.type==1&&(match P.underlying f3.type with
   |some (.slice e)=>e==t
   |_=>false))
  |_=>false)
 |_=>false)&&P.cellsOf t==4
def Aj(P:Program)(fit:TypeId->Ty->Bool)(tot:Nat):List Field->Nat->Ty->Bool
 |[],_,_=>false
 |[f],off,t=>f.offset==off&&off+P.cellsOf f.type==tot&&P.cellsOf f.type==t.rep.n&&fit f.type t
 |f::g::fs,off,t=>match t with
  | .p a b=>f.offset==off&&P.cellsOf f.type==a.rep.n&&fit f.type a&&Aj P fit tot (g::fs) (off+P.cellsOf f.type) b
  |_=>false
def fits(P:Program):Nat->TypeId->Ty->Bool
 |0,_,_=>false
 |n+1,i,t=>match P.underlying i with
  |some (.int k)=>(match t with
   | .i k'=>decide (k=k')
   |_=>false)
  |some .bool=>(match t with
   | .bo=>true
   |_=>false)
  |some .string=>(match t with
   | .s=>true
   |_=>false)
  |some (.slice e)=>(match t with
   | .l u=>P.cellsOf e==u.rep.n&&Nat.blt 0 u.rep.n&&fits P n e u
   |_=>false)
  |some (.struct fs)=>(match t with
   | .ex=>exB P i
   | .p a b=>Aj P (fits P n) (P.cellsOf i) fs.toList 0 (.p a b)
   |_=>false)
  |_=>false
def YB:Ty->Bool
 | .n=>false
 | .p a b=>YB a&&YB b
 |_=>true
theorem LJ{P:Program}{c:TypeId->Ty->Bool}(h:∀i t,c i t=true->YB t=true){d:Nat}:∀(j:List Field) (off:Nat) (t:Ty),Aj P c d j off t=true->YB t=true
 |[],_,_,e=>by cases e
 |[f],off,t,e=>by
  simp only [Aj,ae] at e;exact h _ _ e.2
 |f::g::j,off,t,e=>by
  unfold Aj at e;split at e
  next a b=>simp only [ae] at e;simp only [YB,ae];exact ⟨h _ _ e.1.2,LJ h (g::j) _ b e.2⟩
  .cases e
theorem acv{P:Program}:∀(n:Nat) (i:TypeId) (t:Ty),fits P n i t=true->YB t=true
 |0,_,_,e=>by cases e
 |n+1,i,t,e=>by
  unfold fits at e;split at e <;> (try cases e)
  .split at e
   .rfl
   .cases e
  .split at e
   .rfl
   .cases e
  .split at e
   .rfl
   .cases e
  .split at e
   .rfl
   .cases e
  .split at e
   .rfl
   .exact LJ (λi t=>acv n i t) _ _ _ e
   .cases e
theorem sN{t:TypeId}(h:Mu P t=true):P.underlying t=some (.int .i64)/\P.cellsOf t=1:=by
 unfold Mu at h;simp only [ae,kX] at h;refine ⟨?_,h.2⟩;revert h;split
 next h=>intro _;exact h
 .intro h;cases h.1
theorem ape{t:TypeId}(h:exB P t=true):aiU P t:=by
 unfold exB at h;simp only [ae,kX] at h;obtain ⟨a,r⟩:=h;split at a
 .rename_i f b;split at a
  .rename_i l k j c d;simp only [ae,kX] at a;obtain ⟨⟨⟨⟨a0,o⟩,x,n⟩,w,m⟩,⟨v,s⟩,u⟩:=a;have g:∀i:Nat,f[i]? =[l,k,j,c][i]? :=λi=>by rw [<-d,qk]
   have p:P.underlying c.type=some (.slice t):=by
    revert u;split
    next e q=>intro hb;rw [q,(by simpa using hb:e=t)]
    .intro hb;cases hb
   refine ⟨⟨f,l,k,j,c,b,?_,g 0,g 1,g 2,g 3,⟨a0,(sN o).1,(sN o).2⟩,⟨x,(sN n).1,(sN n).2⟩,⟨w,(sN m).1,(sN m).2⟩,⟨v,p,s⟩⟩,r⟩;rw [<-ch,d];rfl
  .cases a
 .cases a
theorem alH{a:Addr}{v:Value}(h:w.cell? a=some v):a.spot=none/\∃cs e fr,w.heap[a.block]? =some (.cells cs e fr)/\cs[a.off]? =some v:=by
 unfold World.cell? at h;split at h
 .rename_i cs e fr hb;split at h
  .cases h
  next b=>exact ⟨by simpa using b,cs,e,fr,hb,h⟩
 .cases h
theorem OX{Y α:Type}(R:Nat->Y->α->Prop):∀(ys:List Y),(∀i y,ys[i]? =some y->∃e,R i y e)->∃l:List α,l.length=ys.length/\∀i y e,ys[i]? =some y->l[i]? =some e->R i y e
 |[],_=>⟨[],rfl,λi y e h=>by simp at h⟩
 |y::ys,h=>by
  obtain ⟨e,f⟩:=h 0 y rfl;obtain ⟨l,d,c⟩:=OX (λi=>R (i+1)) ys (λi y a=>h (i+1) y (by simpa using a));refine ⟨e::l,by simp [d],λi b e' a hx=>?_⟩;cases i with
  |zero=>
   simp only [ec,b8] at a hx;subst a;subst hx;exact f
  |succ i=>exact c i b e' (by simpa using a) (by simpa using hx)
theorem O7{H:Type}:∀(l:List (DataW H)),l.length<=Rows.uptoBulkAll l
 |[]=>qd _
 |d::l=>by have:=O7 l;have:=Rm d;simp only [eb,Rows.uptoBulkAll];omega
theorem aj6{H:Type}{enc:TypeId×Value->H}{t e:TypeId}{A:dD α}{D:α->Prop}(ht:P.underlying t=some (.slice e))(hA:P.cellsOf e=A.n)(hn:0<A.n)
  (p:Nat) (cs:w9) (x:DataW H×List MemPlace) (N:∀n,n<=Rows.uptoBulk x.1->Q n)
  (he:∀(p:Nat) (us:w9) (y:DataW H×List MemPlace),(∀n,n<=Rows.uptoBulk y.1->Q n)->DataW.trod enc P W 0 (λ_=>true) true p e us=some y->∃z,A.rd (λ_=>False) W us z/\D z)
  (h:DataW.trod enc P W 0 (λ_=>true) true p t cs=some x):
  ∃(u:fA) (zs:List α),cs=[sl u]/\bQ A (λ_=>False) W (sl u) zs/\(zs.length<=9223372036854775807/\Q zs.length)/\∀z∈zs,D z:=by
 rcases DataW.trod_slice ht h with ⟨o,_⟩|⟨a,len,cap,c,rest,m,rfl,o,hx,_,hlc,B,E,J,T,_⟩
 .exact ⟨(none,0,0),[],o,bQ.nil,⟨by simp,N _ (qd _)⟩,by simp⟩
 .obtain ⟨hrl,w⟩:=T rfl;rw [hA] at J w;have B:cap<=9223372036854775807:=B;have hb:Rows.uptoBulk x.1=Rows.uptoBulkAll (c.map (·.1))+Rows.uptoBulkAll (rest.map (·.1))+1:=by rw [hx];simp only [Rows.uptoBulk]
  have hlb:len<=Rows.uptoBulk x.1:=by have:=O7 (c.map (·.1));simp only [List.length_map] at this;omega
  have V:∀y∈c,∀n,n<=Rows.uptoBulk y.1->Q n:=λy k n hn=>N n (by have:=C0 (d:=y.1) (l:=c.map (·.1)) (List.mem_map.2 ⟨y,k,rfl⟩);omega)
  have cell:∀i,i<cap->∃us y,us.length=A.n/\(∀j,j<A.n->W.cell? ((a.add (i*A.n)).add j)=us[j]?)/\DataW.trod enc P W 0 (λ_=>true) true m e us=some y/\(i<len->c[i]? =some y):=λi hi=>by
   by_cases G:i<len
   .obtain ⟨y,k⟩:∃y,c[i]? =some y:=⟨c[i]'(by omega),cb _⟩;have:=J i G;rw [k,qL] at this;obtain ⟨us,O,Z⟩:=this;obtain ⟨_,o,r⟩:=World.cells?_some O;exact ⟨us,y,o,r,Z,λ_=>k⟩
   .obtain ⟨y,k⟩:∃y,rest[i-len]? =some y:=⟨rest[i-len]'(by omega),cb _⟩;have:=w (i-len) (by omega);rw [k,qL,show len+(i-len)=i by omega] at this;obtain ⟨us,O,Z⟩:=this;obtain ⟨_,o,r⟩:=World.cells?_some O;exact ⟨us,y,o,r,Z,λh=>absurd h G⟩
  by_cases K:cap=0
  .subst K;obtain rfl:len=0:=by omega
   exact ⟨(some a,0,0),[],o,bQ.emp,⟨by simp,N _ (qd _)⟩,by simp⟩
  .obtain ⟨us0,_,hl0,U,_⟩:=cell 0 (by omega);have M:=U 0 hn;rw [cb (by omega)] at M;obtain ⟨hs,f,e',fr,L,_⟩:=alH M;have v:a.spot=none:=by simpa [Addr.add] using hs
   have g:W.heap[a.block]? =some (.cells f e' fr):=by simpa [Addr.add] using L
   obtain ⟨b,off,sp⟩:=a;simp only at v g;subst v;have at_:∀i j,((⟨b,off,none⟩:Addr).add (i*A.n)).add j=⟨b,off+i*A.n+j,none⟩:=λi j=>by unfold Addr.add;split <;> split <;> simp_all
   have q:∀i,i<cap->∃us y,us.length=A.n/\(∀j,j<A.n->f[off+i*A.n+j]? =us[j]?)/\DataW.trod enc P W 0 (λ_=>true) true m e us=some y/\(i<len->c[i]? =some y):=λi hi=>by obtain ⟨us,y,o,r,Y,X⟩:=cell i hi;refine ⟨us,y,o,λj F=>?_,Y,X⟩;have:=r j F;rw [at_] at this;simpa [World.cell?,g] using this
   have s:off+cap*A.n<=f.size:=by
    obtain ⟨us,_,o,r,_⟩:=q (cap-1) (by omega);have:=r (A.n-1) (by omega);rw [cb (by omega)] at this;have:=(Array.getElem?_eq_some_iff.1 this).1;have e1:cap*A.n=(cap-1)*A.n+A.n:=by
     have:cap=(cap-1)+1:=by omega
     conv=>lhs;rw [this]
     rw [p8,Nat.one_mul]
    omega
   have I:∀i y,c[i]? =some y->∃z,(A.rd (λ_=>False) W (((f.toList.drop off).drop (i*A.n)).take A.n) z/\D z):=λi y k=>by
    have hi:i<len:=by rw [<-E];exact (List.getElem?_eq_some_iff.1 k).1
    obtain ⟨us,R,o,r,Y,X⟩:=q i (by omega);obtain rfl:R=y:=by have:=X hi;rw [k] at this;exact (qa this).symm
    have S:((f.toList.drop off).drop (i*A.n)).take A.n=us:=by
     apply qp;intro j;by_cases F:j<A.n
     .rw [kR,lk F,j5,j5,<-r j F];simp [qs]
     .rw [kR,j0 F,j6 (by omega)]
    rw [S];exact he m us R (V R (pa k)) Y
   obtain ⟨l,hll,hR⟩:=OX (λi y z=>A.rd (λ_=>False) W (((f.toList.drop off).drop (i*A.n)).take A.n) z/\D z) c I;have C:l.length=len:=by omega
   have get:∀i (hi:i<l.length),A.rd (λ_=>False) W (((f.toList.drop off).drop (i*A.n)).take A.n) l[i]/\D l[i]:=λi hi=>by obtain ⟨y,k⟩:∃y,c[i]? =some y:=⟨c[i]'(by omega),cb _⟩;exact hR i y l[i] k (cb _)
   refine ⟨(some ⟨b,off,none⟩,len,cap),l,o,.inr ⟨b,off,cap,f,e',fr,by rw [C];rfl,(λh=>h),g,by omega,s,?_⟩,⟨by omega,N _ (by omega)⟩,λz hz=>?_⟩
   .have hle:l.length*A.n<=cap*A.n:=ed _ (by omega);refine ⟨?_,λi hi=>?_⟩
    .simp only [b0,cq,ch];omega
    .have O:i*A.n+A.n<=l.length*A.n:=by rw [<-qX];exact ed _ hi
     rw [qc,n7,c8 (by omega)];exact (get i hi).1
   .obtain ⟨i,hi,rfl⟩:=List.getElem_of_mem hz;exact (get i hi).2
theorem aea{H:Type}{enc:TypeId×Value->H}:∀(n:Nat) (i:TypeId) (t:Ty),fits P n i t=true->∀(o:Nat) (cs:w9) (x:DataW H×List MemPlace),
  (∀n,n<=Rows.uptoBulk x.1->Q n)->DataW.trod enc P W 0 (λ_=>true) true o i cs=some x->∃z:t.T,t.rep.rd (λ_=>False) W cs z/\Jh Q t z:=by
 intro n
 induction n with
 |zero=>intro i t h;cases h
 |succ n ih=>
 intro i t c o cs x R h;unfold fits at c;split at c
 .rename_i k s;split at c
  .obtain ⟨z,q,_,v⟩:=DataW.trod_int s h;have e:=qe c;subst e;exact ⟨z,q,v⟩
  .cases c
 .rename_i s;split at c
  .obtain ⟨z,q,_⟩:=DataW.trod_bool s h;exact ⟨z,q,trivial⟩
  .cases c
 .rename_i s;split at c
  .obtain ⟨⟨⟨z⟩⟩,q,_,v⟩:=DataW.trod_string s h;exact ⟨z,q,v⟩
  .cases c
 .rename_i e s;split at c
  next u=>simp only [ae,kX,e9] at c;obtain ⟨⟨q,F⟩,v⟩:=c;obtain ⟨p,zs,a1,a2,a3,Z⟩:=aj6 (A:=u.rep) (Q:=Q) (D:=Jh Q u) s q F o cs x R (λo us y J h=>ih e u v o us y J h) h;exact ⟨zs,⟨p,a1,a2⟩,a3,Z⟩
  .cases c
 .rename_i B s;have key:∀t:Ty,Aj P (fits P n) (P.cellsOf i) B.toList 0 t=true->∃z:t.T,t.rep.rd (λ_=>False) W cs z/\Jh Q t z:=λt c=>by
   obtain ⟨xs,m,_,hx,hl,K,N⟩:=DataW.trod_struct s h;have hb:Rows.uptoBulk x.1=Rows.uptoBulkAll (xs.map (·.1))+1:=by rw [hx];simp only [Rows.uptoBulk]
   have O:∀y∈xs,∀n,n<=Rows.uptoBulk y.1->Q n:=λy J n hn=>R n (by have:=C0 (d:=y.1) (l:=xs.map (·.1)) (List.mem_map.2 ⟨y,J,rfl⟩);omega)
   have one:∀(j:Nat) (f:Field) (t:Ty),B.toList[j]? =some f->fits P n f.type t=true->∃z:t.T,t.rep.rd (λ_=>False) W ((cs.drop f.offset).take (P.cellsOf f.type)) z/\Jh Q t z:=λj f t G Y=>by
    have E:B[j]? =some f:=by simpa using G
    have q:=N j f E;have M:j<xs.length:=by rw [K];exact (Array.getElem?_eq_some_iff.1 E).1
    rw [cb M] at q;exact ih f.type t Y m _ _ (O _ (qI _)) q
   have go:∀(r:List Field) (j off:Nat) (t:Ty),B.toList.drop j=r->Aj P (fits P n) (P.cellsOf i) r off t=true->∃z:t.T,t.rep.rd (λ_=>False) W (cs.drop off) z/\Jh Q t z:=λr=>by
    induction r with
    |nil=>intro j off t _ h;cases h
    |cons f r I=>
     intro j off t U c;have G:B.toList[j]? =some f:=by have:=congrArg (·[0]?) U;simpa [j5] using this
     have L:B.toList.drop (j+1)=r:=by rw [<-mj,U];rfl
     cases r with
     |nil=>
      simp only [Aj,ae,kX] at c;obtain ⟨⟨⟨q,F⟩,v⟩,S⟩:=c;obtain ⟨z,w,C⟩:=one j f t G S;rw [q,hW (by simp;omega)] at w;exact ⟨z,w,C⟩
     |cons g r=>
      unfold Aj at c;split at c
      next a b=>simp only [ae,kX] at c;obtain ⟨⟨⟨q,F⟩,v⟩,S⟩:=c;obtain ⟨z,w,C⟩:=one j f a G v;obtain ⟨y,X,V⟩:=I (j+1) _ b L S;rw [q] at w;refine ⟨(z,y),⟨_,_,?_,w,X⟩,C,V⟩;rw [<-mj];exact (qO ..).symm
      .cases c
   obtain ⟨z,w,C⟩:=go B.toList 0 0 t rfl c;exact ⟨z,by simpa using w,C⟩
  split at c
  .obtain ⟨e,q,F⟩:=agF (ape c) o cs x h;exact ⟨e,q,R _ F⟩
  .exact key _ c
  .cases c
 .cases c
def j8(W:World)(I:eB):Prop:= ∀it∈I,it.1=false/\it.2.cF=true/\∀M,Mv (λ_=>False) W M W->it.2.P M W
theorem j8.nil:j8 W []:=λit h=>by cases h
theorem j8.app{I J:eB}(h:j8 W I)(k:j8 W J):j8 W (I++J):=λit a=>by
 rcases List.mem_append.1 a with b|b
 .exact h it b
 .exact k it b
theorem j8.one{A:dD α}{p:fA}{l:List α}(h:bQ A (λ_=>False) W (sl p) l):j8 W [(false,EY true A p l false)]:=λit a=>by
 rcases List.mem_singleton.1 a with rfl
 exact ⟨rfl,rfl,λM b _=>⟨h.mv b,λh=>by cases h⟩⟩
theorem ID{W:World}:∀(t:Ty) (cs:w9) (x:t.T),YB t=true->t.rep.rd (λ_=>False) W cs x->∀(o:u9) (N:List Nm),∃I N',RJ t x cs (rN t++o) N I N' o/\j8 W I
 | .i k,cs,x,hn,h,o,N=>⟨[],N,⟨h,rfl,rfl,rfl⟩,.nil⟩
 | .bo,cs,x,hn,h,o,N=>⟨[],N,⟨h,rfl,rfl,rfl⟩,.nil⟩
 | .s,cs,x,hn,h,o,N=>⟨[],N,⟨h,rfl,rfl,rfl⟩,.nil⟩
 | .un,cs,x,hn,h,o,N=>⟨[],N,⟨h,rfl,rfl,rfl⟩,.nil⟩
 | .n,cs,x,hn,h,o,N=>by cases hn
 | .mp _ _,cs,x,hn,h,o,N=>absurd h id
 | .p a b,cs,x,hn,h,o,N=>by
  simp only [YB,ae] at hn;obtain ⟨c1,e,d,c,q⟩:=h;obtain ⟨g,N1,m,u⟩:=ID a c1 x.1 hn.1 c (rN b++o) N;obtain ⟨f,N2,j,r⟩:=ID b e x.2 hn.2 q o N1;refine ⟨g++f,N2,⟨c1,e,N1,g,f,rN b++o,?_,j,d,rfl⟩,u.app r⟩;rw [show rN (.p a b)++o=rN a++(rN b++o) by simp [rN]];exact m
 | .l t,cs,x,hn,h,o,N=>by
  obtain ⟨p,d,c⟩:=h;exact ⟨_,_,⟨⟨0,p,⟨0,0,none⟩,none,.bool false,⟨.un,()⟩⟩,d,rfl,.inl ⟨rfl,rfl⟩⟩,.one c⟩
 | .ex,cs,x,hn,h,o,N=>by obtain ⟨p,d,c⟩:=HB h;exact ⟨_,_,⟨⟨0,p,⟨0,0,none⟩,none,.bool false,⟨.un,()⟩⟩,d,rfl,.inl ⟨rfl,rfl⟩⟩,.one c⟩
def Arg(W:World)(t:Ty)(v:Value)(z:t.T):Prop:= ∀N:List Nm,∃I N',Sem (aqa t) v none none N [⟨t,z⟩] I [] N'/\j8 W I
theorem adT{H:Type}{enc:TypeId×Value->H}{o:Nat}{n:Nat}{i:TypeId}(t:Ty)(f:fits P n i t=true){v:Value}{d:DataW H}{ps:List MemPlace}
  (l:Value.okWide P W .any o i v) (x:∀n,n<=Rows.uptoBulk d->Q n) (h:DataW.Trod enc P W 0 (λ_=>true) true i v d ps):∃z:t.T,Arg W t v z/\Jh Q t z:=by
 have q:=h;obtain ⟨m,hx⟩:=h;obtain ⟨z,c,A⟩:=aea n i t f m _ _ x hx;refine ⟨z,?_,A⟩;cases n with
 |zero=>cases f
 |succ n=>
 unfold fits at f;split at f
 .rename_i k j;split at f
  .have e:=qe f;subst e;obtain ⟨y,rfl,_⟩:=open_int j l q;have:y=z:=by
    have c:([.int k y]:w9)=[.int k z]:=c;injection c with c _
    injection c
   subst this;exact λN=>⟨[],N,⟨y,rfl,rfl,rfl,rfl,rfl⟩,.nil⟩
  .cases f
 .rename_i j;split at f
  .obtain ⟨y,rfl,_⟩:=open_bool j l q;have:y=z:=by
    have c:([.bool y]:w9)=[.bool z]:=c;injection c with c _
    injection c
   subst this;exact λN=>⟨[],N,⟨y,rfl,rfl,rfl,rfl,rfl⟩,.nil⟩
  .cases f
 .rename_i j;split at f
  .obtain ⟨⟨⟨y⟩⟩,rfl,_⟩:=open_string j l q;have:y=z:=by
    have c:([S y]:w9)=[S z]:=c;injection c with c _
    injection c with c
    injection c with c
    injection c
   subst this;exact λN=>⟨[],N,⟨y,rfl,rfl,rfl,rfl,rfl⟩,.nil⟩
  .cases f
 .rename_i e j;split at f
  .rename_i u;obtain ⟨a,len,cap,rfl⟩:=okWide_slice j l;obtain ⟨p,w,r⟩:=c;have B:Value.slice a len cap=sl p:=by simpa [Value.cells] using w
   rw [B];exact λN=>⟨_,_,⟨⟨0,p,⟨0,0,none⟩,none,.bool false,⟨.un,()⟩⟩,z,rfl,rfl,rfl,rfl,rfl⟩,.one r⟩
  .cases f
 .rename_i D j;obtain ⟨cs,rfl,_,_⟩:=apC j l;split at f
  .obtain ⟨p,w,r⟩:=HB c;exact λN=>⟨_,_,⟨cs.toList,z,[],by simp,rfl,⟨⟨0,p,⟨0,0,none⟩,none,.bool false,⟨.un,()⟩⟩,w,rfl,.inl ⟨rfl,rfl⟩⟩,rfl⟩,.one r⟩
  .rename_i a b;exact λN=>by
    obtain ⟨I,C,s,g⟩:=ID (.p a b) _ z (LJ (λi t=>acv n i t) _ _ _ f) c [] N;exact ⟨I,C,⟨cs.toList,z,[],by simp,rfl,by simpa [Value.cells] using s,rfl⟩,g⟩
  .cases f
 .cases f
def alx(W:World)(ps:List Pt)(vs:w9)(D:List bZ):Prop:= ∀N:List Nm,∃I N',u5 ps vs [] [] N D I [] N'/\j8 W I
theorem amW:alx W [] [] []:=λN=>⟨[],N,⟨rfl,rfl,rfl,rfl,rfl⟩,.nil⟩
theorem ajt{W:World}{t:Ty}{v:Value}{z:t.T}{ps:List Pt}{vs:w9}{D:List bZ}(h:Arg W t v z)(k:alx W ps vs D):alx W (aqa t::ps) (v::vs) (⟨t,z⟩::D):=λN=>by obtain ⟨b,N1,d,f⟩:=h N;obtain ⟨a,N2,c,e⟩:=k N1;exact ⟨b++a,N2,⟨v,vs,[⟨t,z⟩],D,b,a,[],[],N1,rfl,d,c,rfl,rfl,rfl⟩,f.app e⟩
theorem amE{I:eB}{Γ:Ctx}(g:j8 W I)(b:Ha Γ)(h:Sat Γ W):Sat (di I++Γ) W:=Bq h _ (λit a=>by obtain ⟨x,hx,rfl⟩:=List.mem_map.1 a;exact ⟨(g x hx).2.1,(g x hx).2.2 _ (amY b)⟩)
namespace To
theorem RY{x:Int}(h:(Lit.int .i64 x).wf=true):i64 x:=by simp only [Lit.wf,ae,n5] at h;exact h
abbrev tyV:Ty:= .p (.i .i64) (.p (.i .i64) (.p (.i .i64) (.p (.l (.i .i64)) (.p (.l (.l (.i .i64))) (.l (.l (.i .i64)))))))
theorem apu{v:VT}(h:Jh (λ_=>True) tyV v):alX v:=
 ⟨RY h.2.1,RY h.2.2.1,λn a=>RY (h.2.2.2.1.2 n a),λx hx n a=>RY ((h.2.2.2.2.1.2 x hx).2 n a),λx hx n a=>RY ((h.2.2.2.2.2.2 x hx).2 n a)⟩
theorem ao6(v:VT)(h:Jh (λ_=>True) tyV v):gK v=some true:=aha v (apu h)
end To
end
end Go.Proofs.YtkedhpmpejhekaaGreatDoor
