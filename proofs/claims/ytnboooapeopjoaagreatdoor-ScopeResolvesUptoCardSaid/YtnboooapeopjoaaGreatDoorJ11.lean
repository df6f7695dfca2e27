import Derived.Test.YtnboooapeopjoaaGreatDoorJ10
open Go.Proofs.Tryz renaming prog→ab
set_option linter.all false
section
namespace Go.Proofs.YtnboooapeopjoaaGreatDoor
open Go.Eng
variable [bk]
set_option maxHeartbeats 4000000
set_option maxRecDepth 100000
abbrev CL:V:=.slice [.agg [str ⟨#[97,47,118,49]⟩,str ⟨#[115]⟩]]
abbrev eB:V:=.agg [num 1,str ⟨#[118]⟩,bl false,bl false,str ⟨#[]⟩,.slice [],num 0,str ⟨#[]⟩,str ⟨#[]⟩,.slice [],.slice [],num 0,str ⟨#[]⟩,str ⟨#[]⟩,.slice [],.slice [],num 2,str ⟨#[]⟩,str ⟨#[]⟩,.slice [],.slice [],num 0,str ⟨#[]⟩,str ⟨#[]⟩,str ⟨#[]⟩,num 1,.slice [],.slice [],.slice [],str ⟨#[]⟩,str ⟨#[]⟩]
abbrev ZL:V:=.agg [num 3,str ⟨#[]⟩,str ⟨#[118]⟩,str ⟨#[]⟩,num 0,.slice [],.slice [],.slice []]
abbrev ZM:V:=.slice [.agg [num 0,str ⟨#[]⟩,str ⟨#[]⟩,str ⟨#[]⟩,num 2,.slice [],.slice [],.slice []],.agg [num 16,str ⟨#[]⟩,str ⟨#[43]⟩,str ⟨#[]⟩,num 0,.slice [],.slice [],.slice [ZL,ZL]]]
abbrev eX:V:=.agg [num 1,str ⟨#[119]⟩,bl false,bl false,str ⟨#[]⟩,.slice [],num 0,str ⟨#[]⟩,str ⟨#[]⟩,.slice [],.slice [],num 0,str ⟨#[]⟩,str ⟨#[]⟩,.slice [],.slice [],num 2,str ⟨#[]⟩,str ⟨#[]⟩,.slice [],.slice [],num 10,str ⟨#[]⟩,str ⟨#[118]⟩,str ⟨#[]⟩,num 0,.slice [],.slice [],ZM,str ⟨#[]⟩,str ⟨#[]⟩]
abbrev pM:V:=.agg [num 1,str ⟨#[120]⟩,bl false,bl false,str ⟨#[]⟩,.slice [],num 0,str ⟨#[]⟩,str ⟨#[]⟩,.slice [],.slice [],num 0,str ⟨#[]⟩,str ⟨#[]⟩,.slice [],.slice [],num 2,str ⟨#[]⟩,str ⟨#[]⟩,.slice [],.slice [],num 4,str ⟨#[109,47,118,49]⟩,str ⟨#[118]⟩,str ⟨#[]⟩,num 0,.slice [],.slice [],.slice [],str ⟨#[]⟩,str ⟨#[]⟩]
abbrev Nx:V:=.slice [.agg [str ⟨#[65]⟩,num 0,num 0,str ⟨#[]⟩,str ⟨#[]⟩,.slice [],.slice []]]
abbrev Et:V:=.slice [.agg [num 9,str ⟨#[]⟩,str ⟨#[65]⟩,.slice [],.slice []]]
abbrev uN:V:=.agg [num 0,str ⟨#[80]⟩,bl false,bl false,str ⟨#[]⟩,Nx,num 5,str ⟨#[]⟩,str ⟨#[]⟩,Et,.slice [],num 5,str ⟨#[]⟩,str ⟨#[]⟩,Et,.slice [],num 5,str ⟨#[]⟩,str ⟨#[]⟩,Et,.slice [],num 0,str ⟨#[]⟩,str ⟨#[]⟩,str ⟨#[]⟩,num 0,.slice [],.slice [],.slice [],str ⟨#[]⟩,str ⟨#[]⟩]
abbrev JK:V:=.agg [num 1,str ⟨#[121]⟩,bl false,bl false,str ⟨#[]⟩,.slice [],num 0,str ⟨#[]⟩,str ⟨#[]⟩,.slice [],.slice [],num 0,str ⟨#[]⟩,str ⟨#[]⟩,.slice [],.slice [],num 10,str ⟨#[97,47,118,49]⟩,str ⟨#[78]⟩,.slice [],.slice [],num 4,str ⟨#[97,47,118,49]⟩,str ⟨#[102]⟩,str ⟨#[]⟩,num 0,.slice [],.slice [],.slice [],str ⟨#[]⟩,str ⟨#[]⟩]
abbrev vw:V:=.slice [eB,eX,pM,uN,JK]
abbrev cQ:bm:=.box [str ⟨#[109,47,118,49]⟩,CL,vw]
abbrev Gs:bm:=.map [(.string ⟨#[97,47,118,49]⟩,0,bl true)] 1
abbrev kE:bm:=.box [str ⟨#[97,47,118,49]⟩,str ⟨#[115]⟩]
abbrev df:bm:=.box [num 1,str ⟨#[118]⟩,bl false,bl false,str ⟨#[]⟩,.slice [],num 0,str ⟨#[]⟩,str ⟨#[]⟩,.slice [],.slice [],num 0,str ⟨#[]⟩,str ⟨#[]⟩,.slice [],.slice [],num 2,str ⟨#[]⟩,str ⟨#[]⟩,.slice [],.slice [],num 0,str ⟨#[]⟩,str ⟨#[]⟩,str ⟨#[]⟩,num 1,.slice [],.slice [],.slice [],str ⟨#[]⟩,str ⟨#[]⟩]
abbrev Ut:List bm:=[cQ,Gs,.box [.mp 1],kE,df,df,.box [.dU (.func 118) [] [.ptr 2 0]],.box [.dU (.func 119) [] [.ptr 2 0]],.box [bl true],.rows 0 31 [eB],.box [str ⟨#[]⟩,.sc (.slice none 0 0),.ms 9 0 0 1,num 0,.sc (.slice none 0 0),num 0,.dU (.func 140) [] [.ptr 8 0,.ptr 6 0],.dU (.func 141) [] [.ptr 8 0,.ptr 7 0],.sc (.func (.func 139) #[] #[])]]
abbrev Uu:List bm:=[cQ,Gs,.box [.mp 1],kE,df]
abbrev dz:bm:=.box [num 1,str ⟨#[119]⟩,bl false,bl false,str ⟨#[]⟩,.slice [],num 0,str ⟨#[]⟩,str ⟨#[]⟩,.slice [],.slice [],num 0,str ⟨#[]⟩,str ⟨#[]⟩,.slice [],.slice [],num 2,str ⟨#[]⟩,str ⟨#[]⟩,.slice [],.slice [],num 10,str ⟨#[]⟩,str ⟨#[118]⟩,str ⟨#[]⟩,num 0,.slice [],.slice [],ZM,str ⟨#[]⟩,str ⟨#[]⟩]
abbrev Uv:bm:=.box [str ⟨#[]⟩,.sc (.slice none 0 0),.ms 10 0 0 1,num 0,.sc (.slice none 0 0),num 0,.dU (.func 140) [] [.ptr 9 0,.ptr 7 0],.dU (.func 141) [] [.ptr 9 0,.ptr 8 0],.sc (.func (.func 139) #[] #[])]
abbrev Gt:bm:=.map [(.string ⟨#[97,47,118,49]⟩,0,bl true),(.string ⟨#[]⟩,1,bl true)] 2
abbrev ig:bm:=.box [num 1,str ⟨#[120]⟩,bl false,bl false,str ⟨#[]⟩,.slice [],num 0,str ⟨#[]⟩,str ⟨#[]⟩,.slice [],.slice [],num 0,str ⟨#[]⟩,str ⟨#[]⟩,.slice [],.slice [],num 2,str ⟨#[]⟩,str ⟨#[]⟩,.slice [],.slice [],num 4,str ⟨#[109,47,118,49]⟩,str ⟨#[118]⟩,str ⟨#[]⟩,num 0,.slice [],.slice [],.slice [],str ⟨#[]⟩,str ⟨#[]⟩]
abbrev Uw:bm:=.box [str ⟨#[]⟩,.sc (.slice none 0 0),.ms 11 0 0 1,num 0,.sc (.slice none 0 0),num 0,.dU (.func 140) [] [.ptr 10 0,.ptr 8 0],.dU (.func 141) [] [.ptr 10 0,.ptr 9 0],.sc (.func (.func 139) #[] #[])]
abbrev vz:bm:=.map [(.string ⟨#[97,47,118,49]⟩,0,bl true),(.string ⟨#[]⟩,1,bl true),(.string ⟨#[109,47,118,49]⟩,2,bl true)] 3
abbrev lO:bm:=.box [num 0,str ⟨#[80]⟩,bl false,bl false,str ⟨#[]⟩,Nx,num 5,str ⟨#[]⟩,str ⟨#[]⟩,Et,.slice [],num 5,str ⟨#[]⟩,str ⟨#[]⟩,Et,.slice [],num 5,str ⟨#[]⟩,str ⟨#[]⟩,Et,.slice [],num 0,str ⟨#[]⟩,str ⟨#[]⟩,str ⟨#[]⟩,num 0,.slice [],.slice [],.slice [],str ⟨#[]⟩,str ⟨#[]⟩]
abbrev Ux:V:=.dU (.func 140) [] [.ptr 11 0,.ptr 9 0]
abbrev Uy:V:=.dU (.func 141) [] [.ptr 11 0,.ptr 10 0]
abbrev Uz:List bm:=[cQ,vz,.box [.mp 1],kE,df,dz,ig,lO]
abbrev vA:bm:=.box [num 1,str ⟨#[121]⟩,bl false,bl false,str ⟨#[]⟩,.slice [],num 0,str ⟨#[]⟩,str ⟨#[]⟩,.slice [],.slice [],num 0,str ⟨#[]⟩,str ⟨#[]⟩,.slice [],.slice [],num 10,str ⟨#[97,47,118,49]⟩,str ⟨#[78]⟩,.slice [],.slice [],num 4,str ⟨#[97,47,118,49]⟩,str ⟨#[102]⟩,str ⟨#[]⟩,num 0,.slice [],.slice [],.slice [],str ⟨#[]⟩,str ⟨#[]⟩]
abbrev UA:List bm:=[cQ,vz,.box [.mp 1],kE,df,dz,ig,lO,vA,vA,.box [.dU (.func 118) [] [.ptr 2 0]],.box [.dU (.func 119) [] [.ptr 2 0]],.box [bl true],.rows 0 31 [JK],.box [str ⟨#[]⟩,.sc (.slice none 0 0),.ms 13 0 0 1,num 0,.sc (.slice none 0 0),num 0,.dU (.func 140) [] [.ptr 12 0,.ptr 10 0],.dU (.func 141) [] [.ptr 12 0,.ptr 11 0],.sc (.func (.func 139) #[] #[])]]
abbrev UB:List bm:=[cQ,vz,.box [.mp 1],kE,df,dz,ig,lO,vA]
abbrev UC:bm:=.map [(.string ⟨#[97,47,118,49]⟩,0,bl true)] 3
abbrev L9:V:=.agg [str ⟨#[109,47,118,49]⟩,CL,vw]
abbrev lP:V:=.slice [.agg [str ⟨#[97,47,118,49]⟩,str ⟨#[109,48]⟩]]
abbrev ja:bm:=.box [str ⟨#[]⟩,.sc (.slice none 0 0),.sc (.slice none 0 0)]
abbrev UD:bm:=.box [str ⟨#[109,47,118,49]⟩,lP,.sc (.slice none 0 0)]
abbrev js:bm:=.map [(.string ⟨#[109,47,118,49]⟩,0,str ⟨#[]⟩),(.string ⟨#[97,47,118,49]⟩,1,str ⟨#[109,48]⟩)] 2
abbrev fp:bm:=.box [str ⟨#[97,47,118,49]⟩,str ⟨#[109,48]⟩]
abbrev UE:bm:=.box [str ⟨#[109,47,118,49]⟩,CL,vw,num 0,.sc (.slice none 0 0),num 0,.dU (.func 124) [] [.ptr 5 0],.dU (.func 126) [] [.ptr 5 0],.dU (.func 123) [] [.ptr 5 0]]
abbrev Ma:List bm:=[cQ,ja,UD,cQ,js,.box [.mp 4],fp,UE]
abbrev UF:bm:=.box [str ⟨#[109,47,118,49]⟩,lP,.ms 10 0 0 1]
abbrev UG:bm:=.box [str ⟨#[109,47,118,49]⟩,CL,vw,num 1,.sc (.slice none 0 0),num 0,.dU (.func 124) [] [.ptr 5 0],.dU (.func 126) [] [.ptr 5 0],.dU (.func 123) [] [.ptr 5 0]]
abbrev UH:bm:=.box [str ⟨#[109,47,118,49]⟩,lP,.ms 10 1 0 2]
abbrev jb:V:=.agg [num 1,str ⟨#[120]⟩,bl false,bl false,str ⟨#[]⟩,.slice [],num 0,str ⟨#[]⟩,str ⟨#[]⟩,.slice [],.slice [],num 0,str ⟨#[]⟩,str ⟨#[]⟩,.slice [],.slice [],num 2,str ⟨#[]⟩,str ⟨#[]⟩,.slice [],.slice [],num 3,str ⟨#[]⟩,str ⟨#[118]⟩,str ⟨#[]⟩,num 0,.slice [],.slice [],.slice [],str ⟨#[]⟩,str ⟨#[]⟩]
abbrev UI:bm:=.box [str ⟨#[109,47,118,49]⟩,CL,vw,num 2,.sc (.slice none 0 0),num 0,.dU (.func 124) [] [.ptr 5 0],.dU (.func 126) [] [.ptr 5 0],.dU (.func 123) [] [.ptr 5 0]]
abbrev UJ:bm:=.box [str ⟨#[109,47,118,49]⟩,lP,.ms 10 2 0 3]
abbrev lQ:bm:=.box [num 1,str ⟨#[120]⟩,bl false,bl false,str ⟨#[]⟩,.slice [],num 0,str ⟨#[]⟩,str ⟨#[]⟩,.slice [],.slice [],num 0,str ⟨#[]⟩,str ⟨#[]⟩,.slice [],.slice [],num 2,str ⟨#[]⟩,str ⟨#[]⟩,.slice [],.slice [],num 3,str ⟨#[]⟩,str ⟨#[118]⟩,str ⟨#[]⟩,num 0,.slice [],.slice [],.slice [],str ⟨#[]⟩,str ⟨#[]⟩]
abbrev yy:V:=.slice [.agg [num 10,str ⟨#[]⟩,str ⟨#[65]⟩,.slice [],.slice []]]
abbrev kF:V:=.agg [num 0,str ⟨#[80]⟩,bl false,bl false,str ⟨#[]⟩,Nx,num 5,str ⟨#[]⟩,str ⟨#[]⟩,yy,.slice [],num 5,str ⟨#[]⟩,str ⟨#[]⟩,yy,.slice [],num 5,str ⟨#[]⟩,str ⟨#[]⟩,yy,.slice [],num 0,str ⟨#[]⟩,str ⟨#[]⟩,str ⟨#[]⟩,num 0,.slice [],.slice [],.slice [],str ⟨#[]⟩,str ⟨#[]⟩]
abbrev UK:bm:=.box [str ⟨#[109,47,118,49]⟩,CL,vw,num 3,.slice [str ⟨#[65]⟩],num 0,.dU (.func 124) [] [.ptr 5 0],.dU (.func 126) [] [.ptr 5 0],.dU (.func 123) [] [.ptr 5 0]]
abbrev UL:bm:=.box [str ⟨#[109,47,118,49]⟩,lP,.ms 10 3 0 4]
abbrev UM:bm:=.rows 3 31 [eB,eX,jb,kF]
abbrev ng:bm:=.box [num 0,str ⟨#[80]⟩,bl false,bl false,str ⟨#[]⟩,Nx,num 5,str ⟨#[]⟩,str ⟨#[]⟩,yy,.slice [],num 5,str ⟨#[]⟩,str ⟨#[]⟩,yy,.slice [],num 5,str ⟨#[]⟩,str ⟨#[]⟩,yy,.slice [],num 0,str ⟨#[]⟩,str ⟨#[]⟩,str ⟨#[]⟩,num 0,.slice [],.slice [],.slice [],str ⟨#[]⟩,str ⟨#[]⟩]
abbrev mB:V:=.agg [num 1,str ⟨#[121]⟩,bl false,bl false,str ⟨#[]⟩,.slice [],num 0,str ⟨#[]⟩,str ⟨#[]⟩,.slice [],.slice [],num 0,str ⟨#[]⟩,str ⟨#[]⟩,.slice [],.slice [],num 10,str ⟨#[109,48]⟩,str ⟨#[78]⟩,.slice [],.slice [],num 4,str ⟨#[109,48]⟩,str ⟨#[102]⟩,str ⟨#[]⟩,num 0,.slice [],.slice [],.slice [],str ⟨#[]⟩,str ⟨#[]⟩]
abbrev nW:bm:=.box [str ⟨#[109,47,118,49]⟩,CL,vw,num 4,.sc (.slice none 0 0),num 0,.dU (.func 124) [] [.ptr 5 0],.dU (.func 126) [] [.ptr 5 0],.dU (.func 123) [] [.ptr 5 0]]
abbrev jc:bm:=.box [str ⟨#[109,47,118,49]⟩,lP,.ms 10 4 0 5]
abbrev o1:bm:=.rows 4 31 [eB,eX,jb,kF,mB]
abbrev o2:bm:=.box [num 1,str ⟨#[121]⟩,bl false,bl false,str ⟨#[]⟩,.slice [],num 0,str ⟨#[]⟩,str ⟨#[]⟩,.slice [],.slice [],num 0,str ⟨#[]⟩,str ⟨#[]⟩,.slice [],.slice [],num 10,str ⟨#[109,48]⟩,str ⟨#[78]⟩,.slice [],.slice [],num 4,str ⟨#[109,48]⟩,str ⟨#[102]⟩,str ⟨#[]⟩,num 0,.slice [],.slice [],.slice [],str ⟨#[]⟩,str ⟨#[]⟩]
abbrev qa:bm:=.map [(.string ⟨#[109,48]⟩,0,str ⟨#[97,47,118,49]⟩)] 1
abbrev Mb:bm:=.box [str ⟨#[109,47,118,49]⟩,lP,.ms 10 4 0 5,num 0,.sc (.slice none 0 0),num 0,.sc (.func (.func 85) #[] #[]),.sc (.func (.func 86) #[] #[]),.dU (.func 83) [] [.ptr 21 0]]
abbrev UN:List bm:=[cQ,ja,jc,cQ,js,.box [.mp 4],fp,nW,df,.rows 0 31 [eB],o1,dz,.rows 0 31 [eX],lQ,.rows 0 31 [jb],ng,.rows 0 31 [kF],o2,.rows 0 31 [mB],jc,qa,.box [.mp 20],fp,Mb,df]
abbrev UO:bm:=.box [str ⟨#[109,47,118,49]⟩,lP,.ms 10 4 0 5,num 1,.sc (.slice none 0 0),num 0,.sc (.func (.func 85) #[] #[]),.sc (.func (.func 86) #[] #[]),.dU (.func 83) [] [.ptr 21 0]]
abbrev UP:bm:=.box [str ⟨#[109,47,118,49]⟩,lP,.ms 10 4 0 5,num 2,.sc (.slice none 0 0),num 0,.sc (.func (.func 85) #[] #[]),.sc (.func (.func 86) #[] #[]),.dU (.func 83) [] [.ptr 21 0]]
abbrev UQ:bm:=.box [str ⟨#[109,47,118,49]⟩,lP,.ms 10 4 0 5,num 3,.slice [str ⟨#[65]⟩],num 0,.sc (.func (.func 85) #[] #[]),.sc (.func (.func 86) #[] #[]),.dU (.func 83) [] [.ptr 21 0]]
theorem an1 (hG:bk.g=some 1):eo ab 36 [.ptr 10 0,num 0] Ut (fun r m=>(r,m)∈([(.ec [eB,num 0],Ut)]:List (V×List bm))):=fh bD dL (cg hG) 3000 kr
theorem ai3 (hG:bk.g=some 1):eo ab 80 [eB,.dU (.func 118) [] [.ptr 2 0],.dU (.func 119) [] [.ptr 2 0]] Uu (fun r m=>(r,m)∈([(bl true,Uu)]:List (V×List bm))):=fh bD (cO (an1 hG) dL) (cg hG) 3000 kr
theorem an2 (hG:bk.g=some 1):eo ab 36 [.ptr 11 0,num 0] [cQ,Gs,.box [.mp 1],kE,df,dz,dz,.box [.dU (.func 118) [] [.ptr 2 0]],.box [.dU (.func 119) [] [.ptr 2 0]],.box [bl true],.rows 0 31 [eX],Uv] (fun r m=>(r,m)∈([(.ec [eX,num 0],[cQ,Gt,.box [.mp 1],kE,df,dz,dz,.box [.dU (.func 118) [] [.ptr 2 0]],.box [.dU (.func 119) [] [.ptr 2 0]],.box [bl true],.rows 0 31 [eX],Uv])]:List (V×List bm))):=fh bD dL (cg hG) 3000 kr
theorem ai4 (hG:bk.g=some 1):eo ab 80 [eX,.dU (.func 118) [] [.ptr 2 0],.dU (.func 119) [] [.ptr 2 0]] [cQ,Gs,.box [.mp 1],kE,df,dz] (fun r m=>(r,m)∈([(bl true,[cQ,Gt,.box [.mp 1],kE,df,dz])]:List (V×List bm))):=fh bD (cO (an2 hG) dL) (cg hG) 3000 kr
theorem an3 (hG:bk.g=some 1):eo ab 36 [.ptr 12 0,num 0] [cQ,Gt,.box [.mp 1],kE,df,dz,ig,ig,.box [.dU (.func 118) [] [.ptr 2 0]],.box [.dU (.func 119) [] [.ptr 2 0]],.box [bl true],.rows 0 31 [pM],Uw] (fun r m=>(r,m)∈([(.ec [pM,num 0],[cQ,vz,.box [.mp 1],kE,df,dz,ig,ig,.box [.dU (.func 118) [] [.ptr 2 0]],.box [.dU (.func 119) [] [.ptr 2 0]],.box [bl true],.rows 0 31 [pM],Uw])]:List (V×List bm))):=fh bD dL (cg hG) 3000 kr
theorem ai5 (hG:bk.g=some 1):eo ab 80 [pM,.dU (.func 118) [] [.ptr 2 0],.dU (.func 119) [] [.ptr 2 0]] [cQ,Gt,.box [.mp 1],kE,df,dz,ig] (fun r m=>(r,m)∈([(bl true,[cQ,vz,.box [.mp 1],kE,df,dz,ig])]:List (V×List bm))):=fh bD (cO (an3 hG) dL) (cg hG) 3000 kr
theorem an4 (hG:bk.g=some 1):eo ab 36 [.ptr 13 0,num 0] [cQ,vz,.box [.mp 1],kE,df,dz,ig,lO,lO,.box [.dU (.func 118) [] [.ptr 2 0]],.box [.dU (.func 119) [] [.ptr 2 0]],.box [bl true],.rows 0 31 [uN],.box [str ⟨#[]⟩,.sc (.slice none 0 0),.ms 12 0 0 1,num 0,.sc (.slice none 0 0),num 0,Ux,Uy,.sc (.func (.func 139) #[] #[])]] (fun r m=>(r,m)∈([(.ec [uN,num 0],[cQ,vz,.box [.mp 1],kE,df,dz,ig,lO,lO,.box [.dU (.func 118) [] [.ptr 2 0]],.box [.dU (.func 119) [] [.ptr 2 0]],.box [bl true],.rows 0 31 [uN],.box [str ⟨#[]⟩,.sc (.slice none 0 0),.ms 12 0 0 1,num 0,.slice [str ⟨#[65]⟩],num 0,Ux,Uy,.sc (.func (.func 139) #[] #[])]])]:List (V×List bm))):=fh bD dL (cg hG) 3000 kr
theorem ai6 (hG:bk.g=some 1):eo ab 80 [uN,.dU (.func 118) [] [.ptr 2 0],.dU (.func 119) [] [.ptr 2 0]] Uz (fun r m=>(r,m)∈([(bl true,Uz)]:List (V×List bm))):=fh bD (cO (an4 hG) dL) (cg hG) 3000 kr
theorem an5 (hG:bk.g=some 1):eo ab 36 [.ptr 14 0,num 0] UA (fun r m=>(r,m)∈([(.ec [JK,num 0],UA)]:List (V×List bm))):=fh bD dL (cg hG) 3000 kr
theorem ai7 (hG:bk.g=some 1):eo ab 80 [JK,.dU (.func 118) [] [.ptr 2 0],.dU (.func 119) [] [.ptr 2 0]] UB (fun r m=>(r,m)∈([(bl true,UB)]:List (V×List bm))):=fh bD (cO (an5 hG) dL) (cg hG) 3000 kr
theorem ZN (hG:bk.g=some 1):eo ab 121 [.mp 1] [cQ,UC,.box [.mp 1],kE,df,dz,ig,lO,vA] (fun r m=>(r,m)∈([(.dU (.func 166) [] [.ptr 9 0],[cQ,UC,.box [.mp 1],kE,df,dz,ig,lO,vA,.box [.mp 1]])]:List (V×List bm))):=wk bD dL (cg hG) 3000 kr
theorem ZO (hG:bk.g=some 1):cx ab 122 [num 0] (str ⟨#[48]⟩):=cU bD (cg hG) 3000 kr
theorem ai8 (hG:bk.g=some 1):cx ab 72 [L9] lP:=HO (bL (ZO hG) bD) (cO (ai3 hG) (cO (ai4 hG) (cO (ai5 hG) (cO (ai6 hG) (cO (ai7 hG) (cO (ZN hG) dL)))))) (cg hG) 3000 kr
theorem ai9 (hG:bk.g=some 1):eo ab 73 [L9,lP] [cQ,ja,UD] (fun r m=>(r,m)∈([(.ptr 7 0,Ma)]:List (V×List bm))):=wk bD dL (cg hG) 3000 kr
theorem aja (hG:bk.g=some 1):eo ab 36 [.ptr 7 0,num 0] Ma (fun r m=>(r,m)∈([(.ec [eB,num 0],Ma)]:List (V×List bm))):=fh bD dL (cg hG) 3000 kr
theorem ajb (hG:bk.g=some 1):eo ab 36 [.ptr 7 0,num 1] [cQ,ja,UF,cQ,js,.box [.mp 4],fp,UE,df,.rows 0 31 [eB],.rows 0 31 [eB]] (fun r m=>(r,m)∈([(.ec [eX,num 0],[cQ,ja,UF,cQ,js,.box [.mp 4],fp,UG,df,.rows 0 31 [eB],.rows 0 31 [eB]])]:List (V×List bm))):=fh bD dL (cg hG) 3000 kr
theorem ajc (hG:bk.g=some 1):eo ab 36 [.ptr 7 0,num 2] [cQ,ja,UH,cQ,js,.box [.mp 4],fp,UG,df,.rows 0 31 [eB],.rows 1 31 [eB,eX],dz,.rows 0 31 [eX]] (fun r m=>(r,m)∈([(.ec [jb,num 0],[cQ,ja,UH,cQ,js,.box [.mp 4],fp,UI,df,.rows 0 31 [eB],.rows 1 31 [eB,eX],dz,.rows 0 31 [eX]])]:List (V×List bm))):=fh bD dL (cg hG) 3000 kr
theorem ajd (hG:bk.g=some 1):eo ab 36 [.ptr 7 0,num 3] [cQ,ja,UJ,cQ,js,.box [.mp 4],fp,UI,df,.rows 0 31 [eB],.rows 2 31 [eB,eX,jb],dz,.rows 0 31 [eX],lQ,.rows 0 31 [jb]] (fun r m=>(r,m)∈([(.ec [kF,num 0],[cQ,ja,UJ,cQ,js,.box [.mp 4],fp,UK,df,.rows 0 31 [eB],.rows 2 31 [eB,eX,jb],dz,.rows 0 31 [eX],lQ,.rows 0 31 [jb]])]:List (V×List bm))):=fh bD dL (cg hG) 3000 kr
theorem aje (hG:bk.g=some 1):eo ab 36 [.ptr 7 0,num 4] [cQ,ja,UL,cQ,js,.box [.mp 4],fp,UK,df,.rows 0 31 [eB],UM,dz,.rows 0 31 [eX],lQ,.rows 0 31 [jb],ng,.rows 0 31 [kF]] (fun r m=>(r,m)∈([(.ec [mB,num 0],[cQ,ja,UL,cQ,js,.box [.mp 4],fp,nW,df,.rows 0 31 [eB],UM,dz,.rows 0 31 [eX],lQ,.rows 0 31 [jb],ng,.rows 0 31 [kF]])]:List (V×List bm))):=fh bD dL (cg hG) 3000 kr
theorem ajf (hG:bk.g=some 1):eo ab 35 [.agg [str ⟨#[109,47,118,49]⟩,lP,.ms 10 4 0 5]] [cQ,ja,jc,cQ,js,.box [.mp 4],fp,nW,df,.rows 0 31 [eB],o1,dz,.rows 0 31 [eX],lQ,.rows 0 31 [jb],ng,.rows 0 31 [kF],o2,.rows 0 31 [mB]] (fun r m=>(r,m)∈([(.ptr 23 0,[cQ,ja,jc,cQ,js,.box [.mp 4],fp,nW,df,.rows 0 31 [eB],o1,dz,.rows 0 31 [eX],lQ,.rows 0 31 [jb],ng,.rows 0 31 [kF],o2,.rows 0 31 [mB],jc,qa,.box [.mp 20],fp,Mb])]:List (V×List bm))):=wk bD dL (cg hG) 3000 kr
theorem ajg (hG:bk.g=some 1):eo ab 36 [.ptr 23 0,num 0] UN (fun r m=>(r,m)∈([(.ec [eB,num 0],UN)]:List (V×List bm))):=fh bD dL (cg hG) 3000 kr
theorem ajh (hG:bk.g=some 1):eo ab 36 [.ptr 23 0,num 1] [cQ,ja,jc,cQ,js,.box [.mp 4],fp,nW,df,.rows 0 31 [eB],o1,dz,.rows 0 31 [eX],lQ,.rows 0 31 [jb],ng,.rows 0 31 [kF],o2,.rows 0 31 [mB],jc,qa,.box [.mp 20],fp,Mb,df,df,.rows 0 31 [eB],.rows 0 31 [eB],dz] (fun r m=>(r,m)∈([(.ec [eX,num 0],[cQ,ja,jc,cQ,js,.box [.mp 4],fp,nW,df,.rows 0 31 [eB],o1,dz,.rows 0 31 [eX],lQ,.rows 0 31 [jb],ng,.rows 0 31 [kF],o2,.rows 0 31 [mB],jc,qa,.box [.mp 20],fp,UO,df,df,.rows 0 31 [eB],.rows 0 31 [eB],dz])]:List (V×List bm))):=fh bD dL (cg hG) 3000 kr
theorem aji (hG:bk.g=some 1):eo ab 36 [.ptr 23 0,num 2] [cQ,ja,jc,cQ,js,.box [.mp 4],fp,nW,df,.rows 0 31 [eB],o1,dz,.rows 0 31 [eX],lQ,.rows 0 31 [jb],ng,.rows 0 31 [kF],o2,.rows 0 31 [mB],jc,qa,.box [.mp 20],fp,UO,df,df,.rows 0 31 [eB],.rows 0 31 [eB],dz,dz,.rows 0 31 [eX],.rows 0 31 [eX],ig] (fun r m=>(r,m)∈([(.ec [pM,num 0],[cQ,ja,jc,cQ,js,.box [.mp 4],fp,nW,df,.rows 0 31 [eB],o1,dz,.rows 0 31 [eX],lQ,.rows 0 31 [jb],ng,.rows 0 31 [kF],o2,.rows 0 31 [mB],jc,qa,.box [.mp 20],fp,UP,df,df,.rows 0 31 [eB],.rows 0 31 [eB],dz,dz,.rows 0 31 [eX],.rows 0 31 [eX],ig])]:List (V×List bm))):=fh bD dL (cg hG) 3000 kr
theorem ajj (hG:bk.g=some 1):eo ab 36 [.ptr 23 0,num 3] [cQ,ja,jc,cQ,js,.box [.mp 4],fp,nW,df,.rows 0 31 [eB],o1,dz,.rows 0 31 [eX],lQ,.rows 0 31 [jb],ng,.rows 0 31 [kF],o2,.rows 0 31 [mB],jc,qa,.box [.mp 20],fp,UP,df,df,.rows 0 31 [eB],.rows 0 31 [eB],dz,dz,.rows 0 31 [eX],.rows 0 31 [eX],ig,ig,.rows 0 31 [pM],.rows 0 31 [pM],lO] (fun r m=>(r,m)∈([(.ec [uN,num 0],[cQ,ja,jc,cQ,js,.box [.mp 4],fp,nW,df,.rows 0 31 [eB],o1,dz,.rows 0 31 [eX],lQ,.rows 0 31 [jb],ng,.rows 0 31 [kF],o2,.rows 0 31 [mB],jc,qa,.box [.mp 20],fp,UQ,df,df,.rows 0 31 [eB],.rows 0 31 [eB],dz,dz,.rows 0 31 [eX],.rows 0 31 [eX],ig,ig,.rows 0 31 [pM],.rows 0 31 [pM],lO])]:List (V×List bm))):=fh bD dL (cg hG) 3000 kr
theorem ajk (hG:bk.g=some 1):eo ab 36 [.ptr 23 0,num 4] [cQ,ja,jc,cQ,js,.box [.mp 4],fp,nW,df,.rows 0 31 [eB],o1,dz,.rows 0 31 [eX],lQ,.rows 0 31 [jb],ng,.rows 0 31 [kF],o2,.rows 0 31 [mB],jc,qa,.box [.mp 20],fp,UQ,df,df,.rows 0 31 [eB],.rows 0 31 [eB],dz,dz,.rows 0 31 [eX],.rows 0 31 [eX],ig,ig,.rows 0 31 [pM],.rows 0 31 [pM],lO,lO,.rows 0 31 [uN],.rows 0 31 [uN],vA] (fun r m=>(r,m)∈([(.ec [JK,num 0],[cQ,ja,jc,cQ,js,.box [.mp 4],fp,nW,df,.rows 0 31 [eB],o1,dz,.rows 0 31 [eX],lQ,.rows 0 31 [jb],ng,.rows 0 31 [kF],o2,.rows 0 31 [mB],jc,qa,.box [.mp 20],fp,.box [str ⟨#[109,47,118,49]⟩,lP,.ms 10 4 0 5,num 4,.sc (.slice none 0 0),num 0,.sc (.func (.func 85) #[] #[]),.sc (.func (.func 86) #[] #[]),.dU (.func 83) [] [.ptr 21 0]],df,df,.rows 0 31 [eB],.rows 0 31 [eB],dz,dz,.rows 0 31 [eX],.rows 0 31 [eX],ig,ig,.rows 0 31 [pM],.rows 0 31 [pM],lO,lO,.rows 0 31 [uN],.rows 0 31 [uN],vA])]:List (V×List bm))):=fh bD dL (cg hG) 3000 kr
theorem ajl (hG:bk.g=some 1):cx ab 27 [L9] (.ec [.agg [str ⟨#[109,47,118,49]⟩,lP,.slice [eB,eX,jb,kF,mB]],num 0,num 0]):=HO (bL (adp hG) (bL (anS hG) (bL (anT hG) (bL (anU hG) (bL (anV hG) (bL (anW hG) (bL (ZO hG) (bL (ai8 hG) (bL (anX hG) (bL (anY hG) (bL (anZ hG) (bL (an0 hG) (bL (ai2 hG) bD))))))))))))) (cO (ai3 hG) (cO (ai4 hG) (cO (ai5 hG) (cO (ai6 hG) (cO (ai7 hG) (cO (ZN hG) (cO (ai9 hG) (cO (aja hG) (cO (ajb hG) (cO (ajc hG) (cO (ajd hG) (cO (aje hG) (cO (ajf hG) (cO (ajg hG) (cO (ajh hG) (cO (aji hG) (cO (ajj hG) (cO (ajk hG) dL)))))))))))))))))) (cg hG) 3000 kr
end Go.Proofs.YtnboooapeopjoaaGreatDoor
end
